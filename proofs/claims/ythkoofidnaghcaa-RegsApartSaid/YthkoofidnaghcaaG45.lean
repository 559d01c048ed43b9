/- Written by a program of this session, after the kit's print: Go functions as Lean functions, each with the proof that the Go text comes to it. -/
import Derived.Test.YthkoofidnaghcaaG0
import Derived.Test.YthkoofidnaghcaaG14
import Derived.Test.YthkoofidnaghcaaHGet
import Derived.Test.YthkoofidnaghcaaHPair
import Derived.Test.YthkoofidnaghcaaHPut
import Derived.Test.YthkoofidnaghcaaHPutPair
namespace Go.Proofs.Ythkoofidnaghcaa.G
open Go.RowKit Go.Proofs.YthkoofidnaghcaaW.PrintWords Go.Proofs.YthkoofidnaghcaaW.PrintLast Go.Proofs.YthkoofidnaghcaaW.PrintMore
attribute [local go_sem] max2_int min2_int max_two min_two max_three min_three max_four min_four   -- for this text's walks alone
set_option linter.unusedVariables false
set_option linter.unusedSimpArgs false

open Go.Proofs.Ythkoofidnaghcaa.Hand
/-! ### whirligiglaw04_RegsApart: function 9 -/
mutual
def whirligiglaw04_RegsApart.l0 : Nat → Int → Bool → Int → Int → Int → Int → Int → Int → Int → Int → Int → Int → Int → Int → Int → Int → Int → Int → Int → Int → Int → Int → Int → Int → Int → Int → Int → Int → Int → Int → Int → Int → Int → Int → Int → Int → Option (Bool)
  | 0, _, _, _, _, _, _, _, _, _, _, _, _, _, _, _, _, _, _, _, _, _, _, _, _, _, _, _, _, _, _, _, _, _, _, _, _ => none
  | k + 1, x3, x9, x10, x11, x13, x16, x312000, x312001, x312002, x312003, x312004, x312005, x312006, x312007, x312008, x312009, x325000, x325001, x325002, x325003, x325004, x325005, x325006, x325007, x325008, x325009, x337000, x337001, x337002, x337003, x337004, x337005, x337006, x337007, x337008, x337009 => if x16 < 8 then ((regs_Get.f x312000 x312001 x312002 x312003 x312004 x312005 x312006 x312007 x312008 x312009 x16).bind fun bt337 => ((regs_Get.f x325000 x325001 x325002 x325003 x325004 x325005 x325006 x325007 x325008 x325009 x16).bind fun bt339 => (if x13 = 0 then (if x16 = x10 then (whirligiglaw04_RegsApart.l0 k x3 x9 x10 x11 x13 (wrap64 (x16 + 1)) x312000 x312001 x312002 x312003 x312004 x312005 x312006 x312007 x312008 x312009 x325000 x325001 x325002 x325003 x325004 x325005 x325006 x325007 x325008 x325009 x337000 x337001 x337002 x337003 x337004 x337005 x337006 x337007 x337008 x337009) else (if bt337.1 = bt339.1 then (whirligiglaw04_RegsApart.l0 k x3 x9 x10 x11 x13 (wrap64 (x16 + 1)) x312000 x312001 x312002 x312003 x312004 x312005 x312006 x312007 x312008 x312009 x325000 x325001 x325002 x325003 x325004 x325005 x325006 x325007 x325008 x325009 x337000 x337001 x337002 x337003 x337004 x337005 x337006 x337007 x337008 x337009) else (some false))) else (whirligiglaw04_RegsApart.l0 k x3 x9 x10 x11 x13 (wrap64 (x16 + 1)) x312000 x312001 x312002 x312003 x312004 x312005 x312006 x312007 x312008 x312009 x325000 x325001 x325002 x325003 x325004 x325005 x325006 x325007 x325008 x325009 x337000 x337001 x337002 x337003 x337004 x337005 x337006 x337007 x337008 x337009)))) else (whirligiglaw04_RegsApart.l1 k x3 x9 x11 x13 0 x312000 x312001 x312002 x312003 x312004 x312005 x312006 x312007 x312008 x312009 x325000 x325001 x325002 x325003 x325004 x325005 x325006 x325007 x325008 x325009 x337000 x337001 x337002 x337003 x337004 x337005 x337006 x337007 x337008 x337009)
def whirligiglaw04_RegsApart.l1 : Nat → Int → Bool → Int → Int → Int → Int → Int → Int → Int → Int → Int → Int → Int → Int → Int → Int → Int → Int → Int → Int → Int → Int → Int → Int → Int → Int → Int → Int → Int → Int → Int → Int → Int → Int → Int → Option (Bool)
  | 0, _, _, _, _, _, _, _, _, _, _, _, _, _, _, _, _, _, _, _, _, _, _, _, _, _, _, _, _, _, _, _, _, _, _, _ => none
  | k + 1, x3, x9, x11, x13, x21, x312000, x312001, x312002, x312003, x312004, x312005, x312006, x312007, x312008, x312009, x325000, x325001, x325002, x325003, x325004, x325005, x325006, x325007, x325008, x325009, x337000, x337001, x337002, x337003, x337004, x337005, x337006, x337007, x337008, x337009 => if x21 < 5 then ((regs_Pair.f x312000 x312001 x312002 x312003 x312004 x312005 x312006 x312007 x312008 x312009 x21).bind fun bt341 => ((regs_Pair.f x337000 x337001 x337002 x337003 x337004 x337005 x337006 x337007 x337008 x337009 x21).bind fun bt343 => (if x21 = x11 then (if x21 = 4 then (if bt343.1 = (IntKind.u16.wrap ((IntKind.u16.wrap (Int.tdiv x3 16)) * 16)) then (whirligiglaw04_RegsApart.l1 k x3 x9 x11 x13 (wrap64 (x21 + 1)) x312000 x312001 x312002 x312003 x312004 x312005 x312006 x312007 x312008 x312009 x325000 x325001 x325002 x325003 x325004 x325005 x325006 x325007 x325008 x325009 x337000 x337001 x337002 x337003 x337004 x337005 x337006 x337007 x337008 x337009) else (some false)) else (if bt343.1 = x3 then (whirligiglaw04_RegsApart.l1 k x3 x9 x11 x13 (wrap64 (x21 + 1)) x312000 x312001 x312002 x312003 x312004 x312005 x312006 x312007 x312008 x312009 x325000 x325001 x325002 x325003 x325004 x325005 x325006 x325007 x325008 x325009 x337000 x337001 x337002 x337003 x337004 x337005 x337006 x337007 x337008 x337009) else (some false))) else (if bt341.1 = bt343.1 then (whirligiglaw04_RegsApart.l1 k x3 x9 x11 x13 (wrap64 (x21 + 1)) x312000 x312001 x312002 x312003 x312004 x312005 x312006 x312007 x312008 x312009 x325000 x325001 x325002 x325003 x325004 x325005 x325006 x325007 x325008 x325009 x337000 x337001 x337002 x337003 x337004 x337005 x337006 x337007 x337008 x337009) else (some false))))) else (if x9 = true then (if x337009 = x312009 then (if x13 = 0 then (if x325001 = x312001 then (if x325008 = x312008 then (some (x325009 == x312009)) else (some false)) else (some false)) else (some true)) else (some false)) else (some false))
end
def whirligiglaw04_RegsApart.f (k : Nat) (a0_0 : Int) (a0_1 : Int) (a0_2 : Int) (a0_3 : Int) (a0_4 : Int) (a0_5 : Int) (a0_6 : Int) (a0_7 : Int) (a0_8 : Int) (a0_9 : Int) (a1 : Int) (a2 : Int) (a3 : Int) : Option (Bool) := (whirligiglaw04_shown.f k).bind fun t312 => ((regs_Put.f a0_0 a0_1 a0_2 a0_3 a0_4 a0_5 a0_6 a0_7 a0_8 a0_9 (wrap64 (Int.tmod a1 8)) a2).bind fun bt313 => ((regs_PutPair.f a0_0 a0_1 a0_2 a0_3 a0_4 a0_5 a0_6 a0_7 a0_8 a0_9 (wrap64 (Int.tmod a1 5)) a3).bind fun bt325 => (if bt325.2.2.2.2.2.2.2.2.2.2 = 0 then (whirligiglaw04_RegsApart.l0 k a3 t312 (wrap64 (Int.tmod a1 8)) (wrap64 (Int.tmod a1 5)) bt313.2.2.2.2.2.2.2.2.2.2 0 a0_0 a0_1 a0_2 a0_3 a0_4 a0_5 a0_6 a0_7 a0_8 a0_9 bt313.1 bt313.2.1 bt313.2.2.1 bt313.2.2.2.1 bt313.2.2.2.2.1 bt313.2.2.2.2.2.1 bt313.2.2.2.2.2.2.1 bt313.2.2.2.2.2.2.2.1 bt313.2.2.2.2.2.2.2.2.1 bt313.2.2.2.2.2.2.2.2.2.1 bt325.1 bt325.2.1 bt325.2.2.1 bt325.2.2.2.1 bt325.2.2.2.2.1 bt325.2.2.2.2.2.1 bt325.2.2.2.2.2.2.1 bt325.2.2.2.2.2.2.2.1 bt325.2.2.2.2.2.2.2.2.1 bt325.2.2.2.2.2.2.2.2.2.1) else (some false))))
theorem whirligiglaw04_RegsApart.mono_l : ∀ k, (∀ y0 y1 y2 y3 y4 y5 y6 y7 y8 y9 y10 y11 y12 y13 y14 y15 y16 y17 y18 y19 y20 y21 y22 y23 y24 y25 y26 y27 y28 y29 y30 y31 y32 y33 y34 y35, LeO (whirligiglaw04_RegsApart.l0 k y0 y1 y2 y3 y4 y5 y6 y7 y8 y9 y10 y11 y12 y13 y14 y15 y16 y17 y18 y19 y20 y21 y22 y23 y24 y25 y26 y27 y28 y29 y30 y31 y32 y33 y34 y35) (whirligiglaw04_RegsApart.l0 (k + 1) y0 y1 y2 y3 y4 y5 y6 y7 y8 y9 y10 y11 y12 y13 y14 y15 y16 y17 y18 y19 y20 y21 y22 y23 y24 y25 y26 y27 y28 y29 y30 y31 y32 y33 y34 y35)) ∧ (∀ y0 y1 y2 y3 y4 y5 y6 y7 y8 y9 y10 y11 y12 y13 y14 y15 y16 y17 y18 y19 y20 y21 y22 y23 y24 y25 y26 y27 y28 y29 y30 y31 y32 y33 y34, LeO (whirligiglaw04_RegsApart.l1 k y0 y1 y2 y3 y4 y5 y6 y7 y8 y9 y10 y11 y12 y13 y14 y15 y16 y17 y18 y19 y20 y21 y22 y23 y24 y25 y26 y27 y28 y29 y30 y31 y32 y33 y34) (whirligiglaw04_RegsApart.l1 (k + 1) y0 y1 y2 y3 y4 y5 y6 y7 y8 y9 y10 y11 y12 y13 y14 y15 y16 y17 y18 y19 y20 y21 y22 y23 y24 y25 y26 y27 y28 y29 y30 y31 y32 y33 y34))
  | 0 => ⟨fun _ _ _ _ _ _ _ _ _ _ _ _ _ _ _ _ _ _ _ _ _ _ _ _ _ _ _ _ _ _ _ _ _ _ _ _ r h => by simp [whirligiglaw04_RegsApart.l0] at h, fun _ _ _ _ _ _ _ _ _ _ _ _ _ _ _ _ _ _ _ _ _ _ _ _ _ _ _ _ _ _ _ _ _ _ _ r h => by simp [whirligiglaw04_RegsApart.l1] at h⟩
  | k + 1 => by
    obtain ⟨ih0, ih1⟩ := whirligiglaw04_RegsApart.mono_l k
    refine ⟨?_, ?_⟩
    · intro y0 y1 y2 y3 y4 y5 y6 y7 y8 y9 y10 y11 y12 y13 y14 y15 y16 y17 y18 y19 y20 y21 y22 y23 y24 y25 y26 y27 y28 y29 y30 y31 y32 y33 y34 y35
      unfold whirligiglaw04_RegsApart.l0
      repeat' first
      | (with_reducible exact ih0 _ _ _ _ _ _ _ _ _ _ _ _ _ _ _ _ _ _ _ _ _ _ _ _ _ _ _ _ _ _ _ _ _ _ _ _)
      | (with_reducible exact ih1 _ _ _ _ _ _ _ _ _ _ _ _ _ _ _ _ _ _ _ _ _ _ _ _ _ _ _ _ _ _ _ _ _ _ _)
      | (with_reducible exact whirligiglaw04_shown.mono _)
      | (with_reducible exact LeO.refl _)
      | (with_reducible exact LeO.none _)
      | (with_reducible refine LeO.ite ?_ ?_)
      | (with_reducible refine LeO.bind ?_ (fun _ => ?_))
      | exact ih0 _ _ _ _ _ _ _ _ _ _ _ _ _ _ _ _ _ _ _ _ _ _ _ _ _ _ _ _ _ _ _ _ _ _ _ _
      | exact ih1 _ _ _ _ _ _ _ _ _ _ _ _ _ _ _ _ _ _ _ _ _ _ _ _ _ _ _ _ _ _ _ _ _ _ _
      | exact whirligiglaw04_shown.mono _
      | exact LeO.none _
      | refine LeO.ite ?_ ?_
      | refine LeO.bind ?_ (fun _ => ?_)
    · intro y0 y1 y2 y3 y4 y5 y6 y7 y8 y9 y10 y11 y12 y13 y14 y15 y16 y17 y18 y19 y20 y21 y22 y23 y24 y25 y26 y27 y28 y29 y30 y31 y32 y33 y34
      unfold whirligiglaw04_RegsApart.l1
      repeat' first
      | (with_reducible exact ih0 _ _ _ _ _ _ _ _ _ _ _ _ _ _ _ _ _ _ _ _ _ _ _ _ _ _ _ _ _ _ _ _ _ _ _ _)
      | (with_reducible exact ih1 _ _ _ _ _ _ _ _ _ _ _ _ _ _ _ _ _ _ _ _ _ _ _ _ _ _ _ _ _ _ _ _ _ _ _)
      | (with_reducible exact whirligiglaw04_shown.mono _)
      | (with_reducible exact LeO.refl _)
      | (with_reducible exact LeO.none _)
      | (with_reducible refine LeO.ite ?_ ?_)
      | (with_reducible refine LeO.bind ?_ (fun _ => ?_))
      | exact ih0 _ _ _ _ _ _ _ _ _ _ _ _ _ _ _ _ _ _ _ _ _ _ _ _ _ _ _ _ _ _ _ _ _ _ _ _
      | exact ih1 _ _ _ _ _ _ _ _ _ _ _ _ _ _ _ _ _ _ _ _ _ _ _ _ _ _ _ _ _ _ _ _ _ _ _
      | exact whirligiglaw04_shown.mono _
      | exact LeO.none _
      | refine LeO.ite ?_ ?_
      | refine LeO.bind ?_ (fun _ => ?_)
theorem whirligiglaw04_RegsApart.mono : ∀ a0 a1 a2 a3 a4 a5 a6 a7 a8 a9 a10 a11 a12 k, LeO (whirligiglaw04_RegsApart.f k a0 a1 a2 a3 a4 a5 a6 a7 a8 a9 a10 a11 a12) (whirligiglaw04_RegsApart.f (k + 1) a0 a1 a2 a3 a4 a5 a6 a7 a8 a9 a10 a11 a12) := by
  intro a0 a1 a2 a3 a4 a5 a6 a7 a8 a9 a10 a11 a12 k
  obtain ⟨ih0, ih1⟩ := whirligiglaw04_RegsApart.mono_l k
  unfold whirligiglaw04_RegsApart.f
  repeat' first
      | (with_reducible exact ih0 _ _ _ _ _ _ _ _ _ _ _ _ _ _ _ _ _ _ _ _ _ _ _ _ _ _ _ _ _ _ _ _ _ _ _ _)
      | (with_reducible exact ih1 _ _ _ _ _ _ _ _ _ _ _ _ _ _ _ _ _ _ _ _ _ _ _ _ _ _ _ _ _ _ _ _ _ _ _)
      | (with_reducible exact whirligiglaw04_shown.mono _)
      | (with_reducible exact LeO.refl _)
      | (with_reducible exact LeO.none _)
      | (with_reducible refine LeO.ite ?_ ?_)
      | (with_reducible refine LeO.bind ?_ (fun _ => ?_))
      | exact ih0 _ _ _ _ _ _ _ _ _ _ _ _ _ _ _ _ _ _ _ _ _ _ _ _ _ _ _ _ _ _ _ _ _ _ _ _
      | exact ih1 _ _ _ _ _ _ _ _ _ _ _ _ _ _ _ _ _ _ _ _ _ _ _ _ _ _ _ _ _ _ _ _ _ _ _
      | exact whirligiglaw04_shown.mono _
      | exact LeO.none _
      | refine LeO.ite ?_ ?_
      | refine LeO.bind ?_ (fun _ => ?_)
set_option maxHeartbeats 8000000 in
set_option maxRecDepth 100000 in
theorem whirligiglaw04_RegsApart.calls (k : Nat) (a0_0 : Int) (a0_1 : Int) (a0_2 : Int) (a0_3 : Int) (a0_4 : Int) (a0_5 : Int) (a0_6 : Int) (a0_7 : Int) (a0_8 : Int) (a0_9 : Int) (a1 : Int) (a2 : Int) (a3 : Int) (r : Bool) (w : World) (h : whirligiglaw04_RegsApart.f k a0_0 a0_1 a0_2 a0_3 a0_4 a0_5 a0_6 a0_7 a0_8 a0_9 a1 a2 a3 = some r) (ht : r = true) :
    Calls Try.prog 9 #[.agg #[.int .u8 a0_0, .int .u8 a0_1, .int .u8 a0_2, .int .u8 a0_3, .int .u8 a0_4, .int .u8 a0_5, .int .u8 a0_6, .int .u8 a0_7, .int .u16 a0_8, .int .u16 a0_9], .int .u8 a1, .int .u8 a2, .int .u16 a3] w fun e w' => e = .returned (.bool r) ∧ Below w.heap.size w w' := by
  have HT := Aside0.mk ht
  clear ht
  have hu24 := Try.underlying24
  have HB := Aside0.mk (Below.refl w.heap.size w)
  have H : ((whirligiglaw04_shown.f k).bind fun t312 => ((regs_Put.f a0_0 a0_1 a0_2 a0_3 a0_4 a0_5 a0_6 a0_7 a0_8 a0_9 (wrap64 (Int.tmod a1 8)) a2).bind fun bt313 => ((regs_PutPair.f a0_0 a0_1 a0_2 a0_3 a0_4 a0_5 a0_6 a0_7 a0_8 a0_9 (wrap64 (Int.tmod a1 5)) a3).bind fun bt325 => (if bt325.2.2.2.2.2.2.2.2.2.2 = 0 then (whirligiglaw04_RegsApart.l0 k a3 t312 (wrap64 (Int.tmod a1 8)) (wrap64 (Int.tmod a1 5)) bt313.2.2.2.2.2.2.2.2.2.2 0 a0_0 a0_1 a0_2 a0_3 a0_4 a0_5 a0_6 a0_7 a0_8 a0_9 bt313.1 bt313.2.1 bt313.2.2.1 bt313.2.2.2.1 bt313.2.2.2.2.1 bt313.2.2.2.2.2.1 bt313.2.2.2.2.2.2.1 bt313.2.2.2.2.2.2.2.1 bt313.2.2.2.2.2.2.2.2.1 bt313.2.2.2.2.2.2.2.2.2.1 bt325.1 bt325.2.1 bt325.2.2.1 bt325.2.2.2.1 bt325.2.2.2.2.1 bt325.2.2.2.2.2.1 bt325.2.2.2.2.2.2.1 bt325.2.2.2.2.2.2.2.1 bt325.2.2.2.2.2.2.2.2.1 bt325.2.2.2.2.2.2.2.2.2.1) else (some false))))) = some r := h
  clear h
  replace H := Option.bind_eq_some_iff.mp H
  obtain ⟨t312, A50, H⟩ := H
  replace H : ((regs_Put.f a0_0 a0_1 a0_2 a0_3 a0_4 a0_5 a0_6 a0_7 a0_8 a0_9 (wrap64 (Int.tmod a1 8)) a2).bind fun bt313 => ((regs_PutPair.f a0_0 a0_1 a0_2 a0_3 a0_4 a0_5 a0_6 a0_7 a0_8 a0_9 (wrap64 (Int.tmod a1 5)) a3).bind fun bt325 => (if bt325.2.2.2.2.2.2.2.2.2.2 = 0 then (whirligiglaw04_RegsApart.l0 k a3 t312 (wrap64 (Int.tmod a1 8)) (wrap64 (Int.tmod a1 5)) bt313.2.2.2.2.2.2.2.2.2.2 0 a0_0 a0_1 a0_2 a0_3 a0_4 a0_5 a0_6 a0_7 a0_8 a0_9 bt313.1 bt313.2.1 bt313.2.2.1 bt313.2.2.2.1 bt313.2.2.2.2.1 bt313.2.2.2.2.2.1 bt313.2.2.2.2.2.2.1 bt313.2.2.2.2.2.2.2.1 bt313.2.2.2.2.2.2.2.2.1 bt313.2.2.2.2.2.2.2.2.2.1 bt325.1 bt325.2.1 bt325.2.2.1 bt325.2.2.2.1 bt325.2.2.2.2.1 bt325.2.2.2.2.2.1 bt325.2.2.2.2.2.2.1 bt325.2.2.2.2.2.2.2.1 bt325.2.2.2.2.2.2.2.2.1 bt325.2.2.2.2.2.2.2.2.2.1) else (some false)))) = some r := H
  have A5 := Aside0.mk A50
  clear A50
  replace H := Option.bind_eq_some_iff.mp H
  obtain ⟨⟨t313, t314, t315, t316, t317, t318, t319, t320, t321, t322, t323⟩, A60, H⟩ := H
  replace H : ((regs_PutPair.f a0_0 a0_1 a0_2 a0_3 a0_4 a0_5 a0_6 a0_7 a0_8 a0_9 (wrap64 (Int.tmod a1 5)) a3).bind fun bt325 => (if bt325.2.2.2.2.2.2.2.2.2.2 = 0 then (whirligiglaw04_RegsApart.l0 k a3 t312 (wrap64 (Int.tmod a1 8)) (wrap64 (Int.tmod a1 5)) t323 0 a0_0 a0_1 a0_2 a0_3 a0_4 a0_5 a0_6 a0_7 a0_8 a0_9 t313 t314 t315 t316 t317 t318 t319 t320 t321 t322 bt325.1 bt325.2.1 bt325.2.2.1 bt325.2.2.2.1 bt325.2.2.2.2.1 bt325.2.2.2.2.2.1 bt325.2.2.2.2.2.2.1 bt325.2.2.2.2.2.2.2.1 bt325.2.2.2.2.2.2.2.2.1 bt325.2.2.2.2.2.2.2.2.2.1) else (some false))) = some r := H
  have A6 := Aside0.mk A60
  clear A60
  replace H := Option.bind_eq_some_iff.mp H
  obtain ⟨⟨t325, t326, t327, t328, t329, t330, t331, t332, t333, t334, t335⟩, A70, H⟩ := H
  replace H : (if t335 = 0 then (whirligiglaw04_RegsApart.l0 k a3 t312 (wrap64 (Int.tmod a1 8)) (wrap64 (Int.tmod a1 5)) t323 0 a0_0 a0_1 a0_2 a0_3 a0_4 a0_5 a0_6 a0_7 a0_8 a0_9 t313 t314 t315 t316 t317 t318 t319 t320 t321 t322 t325 t326 t327 t328 t329 t330 t331 t332 t333 t334) else (some false)) = some r := H
  have A7 := Aside0.mk A70
  clear A70
  by_cases c8 : t335 = 0
  · rw [if_pos c8] at H
    have c8b0 : (t335 == 0) = true := beq_iff_eq.mpr c8
    have c8b1 : (t335 != 0) = false := bne_eq_false_iff_eq.mpr c8
    clear c8
    have H' := Aside0.mk H
    clear H
    go_enter Try.func9, Try.ntmps9
    go_wp2_with (first | ((with_reducible refine gate_dst (N := 4) rfl ?_); refine box_event ?hg (N := 4) ?hd (cs := #[.int .u8 a0_0, .int .u8 a0_1, .int .u8 a0_2, .int .u8 a0_3, .int .u8 a0_4, .int .u8 a0_5, .int .u8 a0_6, .int .u8 a0_7, .int .u16 a0_8, .int .u16 a0_9]) (t := 24) ?hr ?_; (case hd => rfl); (case hg => rfl); (case hr => first | (go_simp; done) | (go_simp; rfl)); intro gb311 hg w9 hbox hb; have n0_ := Aside0.mk (below_step (by repeat (first | (with_reducible first | exact HB.out | apply below_alloc | apply pw_below_drewN | apply below_drew1) | exact HB.out)) hb); have n1_ := Aside0.mk (hbox); have n2_ := Aside0.mk ((by rw [hg]; exact (below_size (by repeat (first | (with_reducible first | exact HB.out | apply below_alloc | apply pw_below_drewN | apply below_drew1) | exact HB.out))) : w.heap.size ≤ gb311)); have n3_ := Aside0.mk ((by rw [hg]; exact (below_size (by repeat (first | (with_reducible first | exact HB.out | apply below_alloc | apply pw_below_drewN | apply below_drew1) | exact HB.out))) : w.heap.size ≤ gb311)); clear HB; have HB := n0_; have BK311 := n1_; have GW311 := n2_; have GE311 := n3_; clear n0_ n1_ n2_ n3_; clear hb hbox hg) | ((with_reducible refine gate_callee (f := 12) rfl ?_); refine goesL_ (some 26) rfl rfl Try.func12 (by kernel_rfl) rfl #[] rfl (by (try simp only [List.map_toArray, List.map_cons, List.map_nil]); first | done | rfl | (simp only [List.length_drop, List.length_take]; rfl)) ?_; (with_reducible refine (whirligiglaw04_shown.calls k  t312 _ A5.out).mono ?_); rintro e w10 ⟨rfl, hb⟩; refine ⟨_, rfl, ?_⟩; have n0_ := Aside0.mk (blk_below (g := gb311) (o := .cells #[.int .u8 a0_0, .int .u8 a0_1, .int .u8 a0_2, .int .u8 a0_3, .int .u8 a0_4, .int .u8 a0_5, .int .u8 a0_6, .int .u8 a0_7, .int .u16 a0_8, .int .u16 a0_9] 24 (0, 0)) (by (with_reducible repeat (first | refine blk_drewN ?_ _ | refine blk_drew ?_ | refine blk_alloc ?_ _)); exact BK311.out) hb); have n1_ := Aside0.mk (below_step (by repeat (first | (with_reducible first | exact HB.out | apply below_alloc | apply pw_below_drewN | apply below_drew1 | refine below_set ?_ GE311.out) | exact HB.out)) hb); clear BK311; clear HB; have BK311 := n0_; have HB := n1_; clear n0_ n1_; (try clear hb); (try clear hb2); (try clear hk); (try clear hi); have hcz11_0 : w10.cell? ⟨gb311, 0, none⟩ = some (.int .u8 a0_0) := (blk_cell BK311.out 0).trans rfl; have hcz11_1 : w10.cell? ⟨gb311, 1, none⟩ = some (.int .u8 a0_1) := (blk_cell BK311.out 1).trans rfl; have hcz11_2 : w10.cell? ⟨gb311, 2, none⟩ = some (.int .u8 a0_2) := (blk_cell BK311.out 2).trans rfl; have hcz11_3 : w10.cell? ⟨gb311, 3, none⟩ = some (.int .u8 a0_3) := (blk_cell BK311.out 3).trans rfl; have hcz11_4 : w10.cell? ⟨gb311, 4, none⟩ = some (.int .u8 a0_4) := (blk_cell BK311.out 4).trans rfl; have hcz11_5 : w10.cell? ⟨gb311, 5, none⟩ = some (.int .u8 a0_5) := (blk_cell BK311.out 5).trans rfl; have hcz11_6 : w10.cell? ⟨gb311, 6, none⟩ = some (.int .u8 a0_6) := (blk_cell BK311.out 6).trans rfl; have hcz11_7 : w10.cell? ⟨gb311, 7, none⟩ = some (.int .u8 a0_7) := (blk_cell BK311.out 7).trans rfl; have hcz11_8 : w10.cell? ⟨gb311, 8, none⟩ = some (.int .u16 a0_8) := (blk_cell BK311.out 8).trans rfl; have hcz11_9 : w10.cell? ⟨gb311, 9, none⟩ = some (.int .u16 a0_9) := (blk_cell BK311.out 9).trans rfl; have hfz11_0 := blk_frozen BK311.out 0; have hfz11_1 := blk_frozen BK311.out 1; have hfz11_2 := blk_frozen BK311.out 2; have hfz11_3 := blk_frozen BK311.out 3; have hfz11_4 := blk_frozen BK311.out 4; have hfz11_5 := blk_frozen BK311.out 5; have hfz11_6 := blk_frozen BK311.out 6; have hfz11_7 := blk_frozen BK311.out 7; have hfz11_8 := blk_frozen BK311.out 8; have hfz11_9 := blk_frozen BK311.out 9) | ((with_reducible refine gate_callee (f := 19) rfl ?_); refine goesL_ (some 37) rfl rfl Try.func19 (by kernel_rfl) rfl #[.agg #[.int .u8 a0_0, .int .u8 a0_1, .int .u8 a0_2, .int .u8 a0_3, .int .u8 a0_4, .int .u8 a0_5, .int .u8 a0_6, .int .u8 a0_7, .int .u16 a0_8, .int .u16 a0_9], .int .i64 (wrap64 (Int.tmod a1 8)), .int .u8 a2] rfl (by (try simp only [List.map_toArray, List.map_cons, List.map_nil]); first | done | rfl | (simp only [List.length_drop, List.length_take]; rfl)) ?_; (with_reducible refine (regs_Put.calls a0_0 a0_1 a0_2 a0_3 a0_4 a0_5 a0_6 a0_7 a0_8 a0_9 (wrap64 (Int.tmod a1 8)) a2 t313 t314 t315 t316 t317 t318 t319 t320 t321 t322 t323 _ A6.out).mono ?_); rintro e w12 ⟨rfl, hb⟩; refine ⟨_, rfl, ?_⟩; have n0_ := Aside0.mk (blk_below (g := gb311) (o := .cells #[.int .u8 a0_0, .int .u8 a0_1, .int .u8 a0_2, .int .u8 a0_3, .int .u8 a0_4, .int .u8 a0_5, .int .u8 a0_6, .int .u8 a0_7, .int .u16 a0_8, .int .u16 a0_9] 24 (0, 0)) (by (with_reducible repeat (first | refine blk_drewN ?_ _ | refine blk_drew ?_ | refine blk_alloc ?_ _)); exact BK311.out) hb); have n1_ := Aside0.mk (below_step (by repeat (first | (with_reducible first | exact HB.out | apply below_alloc | apply pw_below_drewN | apply below_drew1 | refine below_set ?_ GE311.out) | exact HB.out)) hb); clear BK311; clear HB; have BK311 := n0_; have HB := n1_; clear n0_ n1_; (try clear hb); (try clear hb2); (try clear hk); (try clear hi)) | ((with_reducible refine gate_dst (N := 12) rfl ?_); refine box_event ?hg (N := 12) ?hd (cs := #[.int .u8 0, .int .u8 0, .int .u8 0, .int .u8 0, .int .u8 0, .int .u8 0, .int .u8 0, .int .u8 0, .int .u16 0, .int .u16 0]) (t := 24) ?hr ?_; (case hd => rfl); (case hg => rfl); (case hr => first | (go_simp; done) | (go_simp; rfl)); intro gb324 hg w13 hbox hb; have n0_ := Aside0.mk (blk_below (g := gb311) (o := .cells #[.int .u8 a0_0, .int .u8 a0_1, .int .u8 a0_2, .int .u8 a0_3, .int .u8 a0_4, .int .u8 a0_5, .int .u8 a0_6, .int .u8 a0_7, .int .u16 a0_8, .int .u16 a0_9] 24 (0, 0)) (by (with_reducible repeat (first | refine blk_drewN ?_ _ | refine blk_drew ?_ | refine blk_alloc ?_ _)); exact BK311.out) hb); have n1_ := Aside0.mk (below_step (by repeat (first | (with_reducible first | exact HB.out | apply below_alloc | apply pw_below_drewN | apply below_drew1 | refine below_set ?_ GE311.out) | exact HB.out)) hb); have n2_ := Aside0.mk (hbox); have n3_ := Aside0.mk ((by rw [hg]; exact (below_size (by repeat (first | (with_reducible first | exact HB.out | apply below_alloc | apply pw_below_drewN | apply below_drew1 | refine below_set ?_ GE311.out) | exact HB.out))) : w.heap.size ≤ gb324)); have n4_ := Aside0.mk ((by rw [hg]; exact (below_size (by repeat (first | (with_reducible first | exact HB.out | apply below_alloc | apply pw_below_drewN | apply below_drew1 | refine below_set ?_ GE311.out) | exact HB.out))) : w.heap.size ≤ gb324)); have n5_ := Aside0.mk ((by rw [hg]; exact Nat.ne_of_lt (blk_lt (g := gb311) (o := .cells #[.int .u8 a0_0, .int .u8 a0_1, .int .u8 a0_2, .int .u8 a0_3, .int .u8 a0_4, .int .u8 a0_5, .int .u8 a0_6, .int .u8 a0_7, .int .u16 a0_8, .int .u16 a0_9] 24 (0, 0)) (by (with_reducible repeat (first | refine blk_drewN ?_ _ | refine blk_drew ?_ | refine blk_alloc ?_ _)); exact BK311.out)) : gb311 ≠ gb324)); have n6_ := Aside0.mk ((by rw [hg]; exact Nat.ne_of_gt (blk_lt (g := gb311) (o := .cells #[.int .u8 a0_0, .int .u8 a0_1, .int .u8 a0_2, .int .u8 a0_3, .int .u8 a0_4, .int .u8 a0_5, .int .u8 a0_6, .int .u8 a0_7, .int .u16 a0_8, .int .u16 a0_9] 24 (0, 0)) (by (with_reducible repeat (first | refine blk_drewN ?_ _ | refine blk_drew ?_ | refine blk_alloc ?_ _)); exact BK311.out)) : gb324 ≠ gb311)); clear BK311; clear HB; have BK311 := n0_; have HB := n1_; have BK324 := n2_; have GW324 := n3_; have GE324 := n4_; have NB311_324 := n5_; have NB324_311 := n6_; clear n0_ n1_ n2_ n3_ n4_ n5_ n6_; clear hb hbox hg; have hnb14 := NB324_311.out; have hnc14 := NB311_324.out; have hcz15_0 : w13.cell? ⟨gb324, 0, none⟩ = some (.int .u8 0) := (blk_cell BK324.out 0).trans rfl; have hcz15_1 : w13.cell? ⟨gb324, 1, none⟩ = some (.int .u8 0) := (blk_cell BK324.out 1).trans rfl; have hcz15_2 : w13.cell? ⟨gb324, 2, none⟩ = some (.int .u8 0) := (blk_cell BK324.out 2).trans rfl; have hcz15_3 : w13.cell? ⟨gb324, 3, none⟩ = some (.int .u8 0) := (blk_cell BK324.out 3).trans rfl; have hcz15_4 : w13.cell? ⟨gb324, 4, none⟩ = some (.int .u8 0) := (blk_cell BK324.out 4).trans rfl; have hcz15_5 : w13.cell? ⟨gb324, 5, none⟩ = some (.int .u8 0) := (blk_cell BK324.out 5).trans rfl; have hcz15_6 : w13.cell? ⟨gb324, 6, none⟩ = some (.int .u8 0) := (blk_cell BK324.out 6).trans rfl; have hcz15_7 : w13.cell? ⟨gb324, 7, none⟩ = some (.int .u8 0) := (blk_cell BK324.out 7).trans rfl; have hcz15_8 : w13.cell? ⟨gb324, 8, none⟩ = some (.int .u16 0) := (blk_cell BK324.out 8).trans rfl; have hcz15_9 : w13.cell? ⟨gb324, 9, none⟩ = some (.int .u16 0) := (blk_cell BK324.out 9).trans rfl; have hfz15_0 := blk_frozen BK324.out 0; have hfz15_1 := blk_frozen BK324.out 1; have hfz15_2 := blk_frozen BK324.out 2; have hfz15_3 := blk_frozen BK324.out 3; have hfz15_4 := blk_frozen BK324.out 4; have hfz15_5 := blk_frozen BK324.out 5; have hfz15_6 := blk_frozen BK324.out 6; have hfz15_7 := blk_frozen BK324.out 7; have hfz15_8 := blk_frozen BK324.out 8; have hfz15_9 := blk_frozen BK324.out 9; have hcz16_0 : w13.cell? ⟨gb311, 0, none⟩ = some (.int .u8 a0_0) := (blk_cell BK311.out 0).trans rfl; have hcz16_1 : w13.cell? ⟨gb311, 1, none⟩ = some (.int .u8 a0_1) := (blk_cell BK311.out 1).trans rfl; have hcz16_2 : w13.cell? ⟨gb311, 2, none⟩ = some (.int .u8 a0_2) := (blk_cell BK311.out 2).trans rfl; have hcz16_3 : w13.cell? ⟨gb311, 3, none⟩ = some (.int .u8 a0_3) := (blk_cell BK311.out 3).trans rfl; have hcz16_4 : w13.cell? ⟨gb311, 4, none⟩ = some (.int .u8 a0_4) := (blk_cell BK311.out 4).trans rfl; have hcz16_5 : w13.cell? ⟨gb311, 5, none⟩ = some (.int .u8 a0_5) := (blk_cell BK311.out 5).trans rfl; have hcz16_6 : w13.cell? ⟨gb311, 6, none⟩ = some (.int .u8 a0_6) := (blk_cell BK311.out 6).trans rfl; have hcz16_7 : w13.cell? ⟨gb311, 7, none⟩ = some (.int .u8 a0_7) := (blk_cell BK311.out 7).trans rfl; have hcz16_8 : w13.cell? ⟨gb311, 8, none⟩ = some (.int .u16 a0_8) := (blk_cell BK311.out 8).trans rfl; have hcz16_9 : w13.cell? ⟨gb311, 9, none⟩ = some (.int .u16 a0_9) := (blk_cell BK311.out 9).trans rfl; have hfz16_0 := blk_frozen BK311.out 0; have hfz16_1 := blk_frozen BK311.out 1; have hfz16_2 := blk_frozen BK311.out 2; have hfz16_3 := blk_frozen BK311.out 3; have hfz16_4 := blk_frozen BK311.out 4; have hfz16_5 := blk_frozen BK311.out 5; have hfz16_6 := blk_frozen BK311.out 6; have hfz16_7 := blk_frozen BK311.out 7; have hfz16_8 := blk_frozen BK311.out 8; have hfz16_9 := blk_frozen BK311.out 9) | ((with_reducible refine gate_callee (f := 27) rfl ?_); refine goesL_ (some 44) rfl rfl Try.func27 (by kernel_rfl) rfl #[.agg #[.int .u8 a0_0, .int .u8 a0_1, .int .u8 a0_2, .int .u8 a0_3, .int .u8 a0_4, .int .u8 a0_5, .int .u8 a0_6, .int .u8 a0_7, .int .u16 a0_8, .int .u16 a0_9], .int .i64 (wrap64 (Int.tmod a1 5)), .int .u16 a3] rfl (by (try simp only [List.map_toArray, List.map_cons, List.map_nil]); first | done | rfl | (simp only [List.length_drop, List.length_take]; rfl)) ?_; (with_reducible refine (regs_PutPair.calls a0_0 a0_1 a0_2 a0_3 a0_4 a0_5 a0_6 a0_7 a0_8 a0_9 (wrap64 (Int.tmod a1 5)) a3 t325 t326 t327 t328 t329 t330 t331 t332 t333 t334 t335 _ A7.out).mono ?_); rintro e w17 ⟨rfl, hb⟩; refine ⟨_, rfl, ?_⟩; have n0_ := Aside0.mk (blk_below (g := gb311) (o := .cells #[.int .u8 a0_0, .int .u8 a0_1, .int .u8 a0_2, .int .u8 a0_3, .int .u8 a0_4, .int .u8 a0_5, .int .u8 a0_6, .int .u8 a0_7, .int .u16 a0_8, .int .u16 a0_9] 24 (0, 0)) (by (with_reducible repeat (first | refine blk_drewN ?_ _ | refine blk_drew ?_ | refine blk_alloc ?_ _)); refine blk_far ?_ NB311_324.out _; (with_reducible repeat (first | refine blk_drewN ?_ _ | refine blk_drew ?_ | refine blk_alloc ?_ _)); refine blk_far ?_ NB311_324.out _; (with_reducible repeat (first | refine blk_drewN ?_ _ | refine blk_drew ?_ | refine blk_alloc ?_ _)); refine blk_far ?_ NB311_324.out _; (with_reducible repeat (first | refine blk_drewN ?_ _ | refine blk_drew ?_ | refine blk_alloc ?_ _)); refine blk_far ?_ NB311_324.out _; (with_reducible repeat (first | refine blk_drewN ?_ _ | refine blk_drew ?_ | refine blk_alloc ?_ _)); refine blk_far ?_ NB311_324.out _; (with_reducible repeat (first | refine blk_drewN ?_ _ | refine blk_drew ?_ | refine blk_alloc ?_ _)); refine blk_far ?_ NB311_324.out _; (with_reducible repeat (first | refine blk_drewN ?_ _ | refine blk_drew ?_ | refine blk_alloc ?_ _)); refine blk_far ?_ NB311_324.out _; (with_reducible repeat (first | refine blk_drewN ?_ _ | refine blk_drew ?_ | refine blk_alloc ?_ _)); refine blk_far ?_ NB311_324.out _; (with_reducible repeat (first | refine blk_drewN ?_ _ | refine blk_drew ?_ | refine blk_alloc ?_ _)); refine blk_far ?_ NB311_324.out _; (with_reducible repeat (first | refine blk_drewN ?_ _ | refine blk_drew ?_ | refine blk_alloc ?_ _)); refine blk_far ?_ NB311_324.out _; (with_reducible repeat (first | refine blk_drewN ?_ _ | refine blk_drew ?_ | refine blk_alloc ?_ _)); exact BK311.out) hb); have n1_ := Aside0.mk (blk_below (g := gb324) (o := .cells #[.int .u8 t313, .int .u8 t314, .int .u8 t315, .int .u8 t316, .int .u8 t317, .int .u8 t318, .int .u8 t319, .int .u8 t320, .int .u16 t321, .int .u16 t322] 24 (0, 0)) (by (with_reducible repeat (first | refine blk_drewN ?_ _ | refine blk_drew ?_ | refine blk_alloc ?_ _)); refine blk_put (cs := #[.int .u8 t313, .int .u8 t314, .int .u8 t315, .int .u8 t316, .int .u8 t317, .int .u8 t318, .int .u8 t319, .int .u8 t320, .int .u16 t321, .int .u16 0]) ?_ 9 _ rfl; (with_reducible repeat (first | refine blk_drewN ?_ _ | refine blk_drew ?_ | refine blk_alloc ?_ _)); refine blk_put (cs := #[.int .u8 t313, .int .u8 t314, .int .u8 t315, .int .u8 t316, .int .u8 t317, .int .u8 t318, .int .u8 t319, .int .u8 t320, .int .u16 0, .int .u16 0]) ?_ 8 _ rfl; (with_reducible repeat (first | refine blk_drewN ?_ _ | refine blk_drew ?_ | refine blk_alloc ?_ _)); refine blk_put (cs := #[.int .u8 t313, .int .u8 t314, .int .u8 t315, .int .u8 t316, .int .u8 t317, .int .u8 t318, .int .u8 t319, .int .u8 0, .int .u16 0, .int .u16 0]) ?_ 7 _ rfl; (with_reducible repeat (first | refine blk_drewN ?_ _ | refine blk_drew ?_ | refine blk_alloc ?_ _)); refine blk_put (cs := #[.int .u8 t313, .int .u8 t314, .int .u8 t315, .int .u8 t316, .int .u8 t317, .int .u8 t318, .int .u8 0, .int .u8 0, .int .u16 0, .int .u16 0]) ?_ 6 _ rfl; (with_reducible repeat (first | refine blk_drewN ?_ _ | refine blk_drew ?_ | refine blk_alloc ?_ _)); refine blk_put (cs := #[.int .u8 t313, .int .u8 t314, .int .u8 t315, .int .u8 t316, .int .u8 t317, .int .u8 0, .int .u8 0, .int .u8 0, .int .u16 0, .int .u16 0]) ?_ 5 _ rfl; (with_reducible repeat (first | refine blk_drewN ?_ _ | refine blk_drew ?_ | refine blk_alloc ?_ _)); refine blk_put (cs := #[.int .u8 t313, .int .u8 t314, .int .u8 t315, .int .u8 t316, .int .u8 0, .int .u8 0, .int .u8 0, .int .u8 0, .int .u16 0, .int .u16 0]) ?_ 4 _ rfl; (with_reducible repeat (first | refine blk_drewN ?_ _ | refine blk_drew ?_ | refine blk_alloc ?_ _)); refine blk_put (cs := #[.int .u8 t313, .int .u8 t314, .int .u8 t315, .int .u8 0, .int .u8 0, .int .u8 0, .int .u8 0, .int .u8 0, .int .u16 0, .int .u16 0]) ?_ 3 _ rfl; (with_reducible repeat (first | refine blk_drewN ?_ _ | refine blk_drew ?_ | refine blk_alloc ?_ _)); refine blk_put (cs := #[.int .u8 t313, .int .u8 t314, .int .u8 0, .int .u8 0, .int .u8 0, .int .u8 0, .int .u8 0, .int .u8 0, .int .u16 0, .int .u16 0]) ?_ 2 _ rfl; (with_reducible repeat (first | refine blk_drewN ?_ _ | refine blk_drew ?_ | refine blk_alloc ?_ _)); refine blk_put (cs := #[.int .u8 t313, .int .u8 0, .int .u8 0, .int .u8 0, .int .u8 0, .int .u8 0, .int .u8 0, .int .u8 0, .int .u16 0, .int .u16 0]) ?_ 1 _ rfl; (with_reducible repeat (first | refine blk_drewN ?_ _ | refine blk_drew ?_ | refine blk_alloc ?_ _)); refine blk_put (cs := #[.int .u8 0, .int .u8 0, .int .u8 0, .int .u8 0, .int .u8 0, .int .u8 0, .int .u8 0, .int .u8 0, .int .u16 0, .int .u16 0]) ?_ 0 _ rfl; (with_reducible repeat (first | refine blk_drewN ?_ _ | refine blk_drew ?_ | refine blk_alloc ?_ _)); exact BK324.out) hb); have n2_ := Aside0.mk (below_step (by repeat (first | (with_reducible first | exact HB.out | apply below_alloc | apply pw_below_drewN | apply below_drew1 | refine below_set ?_ GE311.out | refine below_set ?_ GE324.out) | exact HB.out)) hb); clear BK311; clear BK324; clear HB; have BK311 := n0_; have BK324 := n1_; have HB := n2_; clear n0_ n1_ n2_; (try clear hb); (try clear hb2); (try clear hk); (try clear hi)) | ((with_reducible refine gate_dst (N := 14) rfl ?_); refine box_event ?hg (N := 14) ?hd (cs := #[.int .u8 0, .int .u8 0, .int .u8 0, .int .u8 0, .int .u8 0, .int .u8 0, .int .u8 0, .int .u8 0, .int .u16 0, .int .u16 0]) (t := 24) ?hr ?_; (case hd => rfl); (case hg => rfl); (case hr => first | (go_simp; done) | (go_simp; rfl)); intro gb336 hg w18 hbox hb; have n0_ := Aside0.mk (blk_below (g := gb311) (o := .cells #[.int .u8 a0_0, .int .u8 a0_1, .int .u8 a0_2, .int .u8 a0_3, .int .u8 a0_4, .int .u8 a0_5, .int .u8 a0_6, .int .u8 a0_7, .int .u16 a0_8, .int .u16 a0_9] 24 (0, 0)) (by (with_reducible repeat (first | refine blk_drewN ?_ _ | refine blk_drew ?_ | refine blk_alloc ?_ _)); exact BK311.out) hb); have n1_ := Aside0.mk (blk_below (g := gb324) (o := .cells #[.int .u8 t313, .int .u8 t314, .int .u8 t315, .int .u8 t316, .int .u8 t317, .int .u8 t318, .int .u8 t319, .int .u8 t320, .int .u16 t321, .int .u16 t322] 24 (0, 0)) (by (with_reducible repeat (first | refine blk_drewN ?_ _ | refine blk_drew ?_ | refine blk_alloc ?_ _)); exact BK324.out) hb); have n2_ := Aside0.mk (below_step (by repeat (first | (with_reducible first | exact HB.out | apply below_alloc | apply pw_below_drewN | apply below_drew1 | refine below_set ?_ GE311.out | refine below_set ?_ GE324.out) | exact HB.out)) hb); have n3_ := Aside0.mk (hbox); have n4_ := Aside0.mk ((by rw [hg]; exact (below_size (by repeat (first | (with_reducible first | exact HB.out | apply below_alloc | apply pw_below_drewN | apply below_drew1 | refine below_set ?_ GE311.out | refine below_set ?_ GE324.out) | exact HB.out))) : w.heap.size ≤ gb336)); have n5_ := Aside0.mk ((by rw [hg]; exact (below_size (by repeat (first | (with_reducible first | exact HB.out | apply below_alloc | apply pw_below_drewN | apply below_drew1 | refine below_set ?_ GE311.out | refine below_set ?_ GE324.out) | exact HB.out))) : w.heap.size ≤ gb336)); have n6_ := Aside0.mk ((by rw [hg]; exact Nat.ne_of_lt (blk_lt (g := gb311) (o := .cells #[.int .u8 a0_0, .int .u8 a0_1, .int .u8 a0_2, .int .u8 a0_3, .int .u8 a0_4, .int .u8 a0_5, .int .u8 a0_6, .int .u8 a0_7, .int .u16 a0_8, .int .u16 a0_9] 24 (0, 0)) (by (with_reducible repeat (first | refine blk_drewN ?_ _ | refine blk_drew ?_ | refine blk_alloc ?_ _)); exact BK311.out)) : gb311 ≠ gb336)); have n7_ := Aside0.mk ((by rw [hg]; exact Nat.ne_of_gt (blk_lt (g := gb311) (o := .cells #[.int .u8 a0_0, .int .u8 a0_1, .int .u8 a0_2, .int .u8 a0_3, .int .u8 a0_4, .int .u8 a0_5, .int .u8 a0_6, .int .u8 a0_7, .int .u16 a0_8, .int .u16 a0_9] 24 (0, 0)) (by (with_reducible repeat (first | refine blk_drewN ?_ _ | refine blk_drew ?_ | refine blk_alloc ?_ _)); exact BK311.out)) : gb336 ≠ gb311)); have n8_ := Aside0.mk ((by rw [hg]; exact Nat.ne_of_lt (blk_lt (g := gb324) (o := .cells #[.int .u8 t313, .int .u8 t314, .int .u8 t315, .int .u8 t316, .int .u8 t317, .int .u8 t318, .int .u8 t319, .int .u8 t320, .int .u16 t321, .int .u16 t322] 24 (0, 0)) (by (with_reducible repeat (first | refine blk_drewN ?_ _ | refine blk_drew ?_ | refine blk_alloc ?_ _)); exact BK324.out)) : gb324 ≠ gb336)); have n9_ := Aside0.mk ((by rw [hg]; exact Nat.ne_of_gt (blk_lt (g := gb324) (o := .cells #[.int .u8 t313, .int .u8 t314, .int .u8 t315, .int .u8 t316, .int .u8 t317, .int .u8 t318, .int .u8 t319, .int .u8 t320, .int .u16 t321, .int .u16 t322] 24 (0, 0)) (by (with_reducible repeat (first | refine blk_drewN ?_ _ | refine blk_drew ?_ | refine blk_alloc ?_ _)); exact BK324.out)) : gb336 ≠ gb324)); clear BK311; clear BK324; clear HB; have BK311 := n0_; have BK324 := n1_; have HB := n2_; have BK336 := n3_; have GW336 := n4_; have GE336 := n5_; have NB311_336 := n6_; have NB336_311 := n7_; have NB324_336 := n8_; have NB336_324 := n9_; clear n0_ n1_ n2_ n3_ n4_ n5_ n6_ n7_ n8_ n9_; clear hb hbox hg; have hnb19 := NB336_311.out; have hnc19 := NB311_336.out; have hnb20 := NB336_324.out; have hnc20 := NB324_336.out; have hcz21_0 : w18.cell? ⟨gb336, 0, none⟩ = some (.int .u8 0) := (blk_cell BK336.out 0).trans rfl; have hcz21_1 : w18.cell? ⟨gb336, 1, none⟩ = some (.int .u8 0) := (blk_cell BK336.out 1).trans rfl; have hcz21_2 : w18.cell? ⟨gb336, 2, none⟩ = some (.int .u8 0) := (blk_cell BK336.out 2).trans rfl; have hcz21_3 : w18.cell? ⟨gb336, 3, none⟩ = some (.int .u8 0) := (blk_cell BK336.out 3).trans rfl; have hcz21_4 : w18.cell? ⟨gb336, 4, none⟩ = some (.int .u8 0) := (blk_cell BK336.out 4).trans rfl; have hcz21_5 : w18.cell? ⟨gb336, 5, none⟩ = some (.int .u8 0) := (blk_cell BK336.out 5).trans rfl; have hcz21_6 : w18.cell? ⟨gb336, 6, none⟩ = some (.int .u8 0) := (blk_cell BK336.out 6).trans rfl; have hcz21_7 : w18.cell? ⟨gb336, 7, none⟩ = some (.int .u8 0) := (blk_cell BK336.out 7).trans rfl; have hcz21_8 : w18.cell? ⟨gb336, 8, none⟩ = some (.int .u16 0) := (blk_cell BK336.out 8).trans rfl; have hcz21_9 : w18.cell? ⟨gb336, 9, none⟩ = some (.int .u16 0) := (blk_cell BK336.out 9).trans rfl; have hfz21_0 := blk_frozen BK336.out 0; have hfz21_1 := blk_frozen BK336.out 1; have hfz21_2 := blk_frozen BK336.out 2; have hfz21_3 := blk_frozen BK336.out 3; have hfz21_4 := blk_frozen BK336.out 4; have hfz21_5 := blk_frozen BK336.out 5; have hfz21_6 := blk_frozen BK336.out 6; have hfz21_7 := blk_frozen BK336.out 7; have hfz21_8 := blk_frozen BK336.out 8; have hfz21_9 := blk_frozen BK336.out 9))
    go_loopg [16] k (fun kq v16 w' => ∃ (x16_1 : Int), v16 = .int .i64 x16_1 ∧ Aside0 (whirligiglaw04_RegsApart.l0 kq a3 t312 (wrap64 (Int.tmod a1 8)) (wrap64 (Int.tmod a1 5)) t323 x16_1 a0_0 a0_1 a0_2 a0_3 a0_4 a0_5 a0_6 a0_7 a0_8 a0_9 t313 t314 t315 t316 t317 t318 t319 t320 t321 t322 t325 t326 t327 t328 t329 t330 t331 t332 t333 t334 = some r) ∧ Aside0 (kq ≤ k) ∧ Aside0 (w'.heap[gb311]? = some (.cells #[.int .u8 a0_0, .int .u8 a0_1, .int .u8 a0_2, .int .u8 a0_3, .int .u8 a0_4, .int .u8 a0_5, .int .u8 a0_6, .int .u8 a0_7, .int .u16 a0_8, .int .u16 a0_9] 24 (0, 0))) ∧ Aside0 (w'.heap[gb324]? = some (.cells #[.int .u8 t313, .int .u8 t314, .int .u8 t315, .int .u8 t316, .int .u8 t317, .int .u8 t318, .int .u8 t319, .int .u8 t320, .int .u16 t321, .int .u16 t322] 24 (0, 0))) ∧ Aside0 (w'.heap[gb336]? = some (.cells #[.int .u8 t325, .int .u8 t326, .int .u8 t327, .int .u8 t328, .int .u8 t329, .int .u8 t330, .int .u8 t331, .int .u8 t332, .int .u16 t333, .int .u16 t334] 24 (0, 0))) ∧ Aside0 (Below w.heap.size w w'))
    case atStart => exact ⟨(0), (by first | rfl | (simp; done) | (simp [*]; done)), H', ⟨Nat.le_refl _⟩, ⟨by (with_reducible repeat (first | refine blk_drewN ?_ _ | refine blk_drew ?_ | refine blk_alloc ?_ _)); refine blk_far ?_ NB311_336.out _; (with_reducible repeat (first | refine blk_drewN ?_ _ | refine blk_drew ?_ | refine blk_alloc ?_ _)); refine blk_far ?_ NB311_336.out _; (with_reducible repeat (first | refine blk_drewN ?_ _ | refine blk_drew ?_ | refine blk_alloc ?_ _)); refine blk_far ?_ NB311_336.out _; (with_reducible repeat (first | refine blk_drewN ?_ _ | refine blk_drew ?_ | refine blk_alloc ?_ _)); refine blk_far ?_ NB311_336.out _; (with_reducible repeat (first | refine blk_drewN ?_ _ | refine blk_drew ?_ | refine blk_alloc ?_ _)); refine blk_far ?_ NB311_336.out _; (with_reducible repeat (first | refine blk_drewN ?_ _ | refine blk_drew ?_ | refine blk_alloc ?_ _)); refine blk_far ?_ NB311_336.out _; (with_reducible repeat (first | refine blk_drewN ?_ _ | refine blk_drew ?_ | refine blk_alloc ?_ _)); refine blk_far ?_ NB311_336.out _; (with_reducible repeat (first | refine blk_drewN ?_ _ | refine blk_drew ?_ | refine blk_alloc ?_ _)); refine blk_far ?_ NB311_336.out _; (with_reducible repeat (first | refine blk_drewN ?_ _ | refine blk_drew ?_ | refine blk_alloc ?_ _)); refine blk_far ?_ NB311_336.out _; (with_reducible repeat (first | refine blk_drewN ?_ _ | refine blk_drew ?_ | refine blk_alloc ?_ _)); refine blk_far ?_ NB311_336.out _; (with_reducible repeat (first | refine blk_drewN ?_ _ | refine blk_drew ?_ | refine blk_alloc ?_ _)); exact BK311.out⟩, ⟨by (with_reducible repeat (first | refine blk_drewN ?_ _ | refine blk_drew ?_ | refine blk_alloc ?_ _)); refine blk_far ?_ NB324_336.out _; (with_reducible repeat (first | refine blk_drewN ?_ _ | refine blk_drew ?_ | refine blk_alloc ?_ _)); refine blk_far ?_ NB324_336.out _; (with_reducible repeat (first | refine blk_drewN ?_ _ | refine blk_drew ?_ | refine blk_alloc ?_ _)); refine blk_far ?_ NB324_336.out _; (with_reducible repeat (first | refine blk_drewN ?_ _ | refine blk_drew ?_ | refine blk_alloc ?_ _)); refine blk_far ?_ NB324_336.out _; (with_reducible repeat (first | refine blk_drewN ?_ _ | refine blk_drew ?_ | refine blk_alloc ?_ _)); refine blk_far ?_ NB324_336.out _; (with_reducible repeat (first | refine blk_drewN ?_ _ | refine blk_drew ?_ | refine blk_alloc ?_ _)); refine blk_far ?_ NB324_336.out _; (with_reducible repeat (first | refine blk_drewN ?_ _ | refine blk_drew ?_ | refine blk_alloc ?_ _)); refine blk_far ?_ NB324_336.out _; (with_reducible repeat (first | refine blk_drewN ?_ _ | refine blk_drew ?_ | refine blk_alloc ?_ _)); refine blk_far ?_ NB324_336.out _; (with_reducible repeat (first | refine blk_drewN ?_ _ | refine blk_drew ?_ | refine blk_alloc ?_ _)); refine blk_far ?_ NB324_336.out _; (with_reducible repeat (first | refine blk_drewN ?_ _ | refine blk_drew ?_ | refine blk_alloc ?_ _)); refine blk_far ?_ NB324_336.out _; (with_reducible repeat (first | refine blk_drewN ?_ _ | refine blk_drew ?_ | refine blk_alloc ?_ _)); exact BK324.out⟩, ⟨by (with_reducible repeat (first | refine blk_drewN ?_ _ | refine blk_drew ?_ | refine blk_alloc ?_ _)); refine blk_put (cs := #[.int .u8 t325, .int .u8 t326, .int .u8 t327, .int .u8 t328, .int .u8 t329, .int .u8 t330, .int .u8 t331, .int .u8 t332, .int .u16 t333, .int .u16 0]) ?_ 9 _ rfl; (with_reducible repeat (first | refine blk_drewN ?_ _ | refine blk_drew ?_ | refine blk_alloc ?_ _)); refine blk_put (cs := #[.int .u8 t325, .int .u8 t326, .int .u8 t327, .int .u8 t328, .int .u8 t329, .int .u8 t330, .int .u8 t331, .int .u8 t332, .int .u16 0, .int .u16 0]) ?_ 8 _ rfl; (with_reducible repeat (first | refine blk_drewN ?_ _ | refine blk_drew ?_ | refine blk_alloc ?_ _)); refine blk_put (cs := #[.int .u8 t325, .int .u8 t326, .int .u8 t327, .int .u8 t328, .int .u8 t329, .int .u8 t330, .int .u8 t331, .int .u8 0, .int .u16 0, .int .u16 0]) ?_ 7 _ rfl; (with_reducible repeat (first | refine blk_drewN ?_ _ | refine blk_drew ?_ | refine blk_alloc ?_ _)); refine blk_put (cs := #[.int .u8 t325, .int .u8 t326, .int .u8 t327, .int .u8 t328, .int .u8 t329, .int .u8 t330, .int .u8 0, .int .u8 0, .int .u16 0, .int .u16 0]) ?_ 6 _ rfl; (with_reducible repeat (first | refine blk_drewN ?_ _ | refine blk_drew ?_ | refine blk_alloc ?_ _)); refine blk_put (cs := #[.int .u8 t325, .int .u8 t326, .int .u8 t327, .int .u8 t328, .int .u8 t329, .int .u8 0, .int .u8 0, .int .u8 0, .int .u16 0, .int .u16 0]) ?_ 5 _ rfl; (with_reducible repeat (first | refine blk_drewN ?_ _ | refine blk_drew ?_ | refine blk_alloc ?_ _)); refine blk_put (cs := #[.int .u8 t325, .int .u8 t326, .int .u8 t327, .int .u8 t328, .int .u8 0, .int .u8 0, .int .u8 0, .int .u8 0, .int .u16 0, .int .u16 0]) ?_ 4 _ rfl; (with_reducible repeat (first | refine blk_drewN ?_ _ | refine blk_drew ?_ | refine blk_alloc ?_ _)); refine blk_put (cs := #[.int .u8 t325, .int .u8 t326, .int .u8 t327, .int .u8 0, .int .u8 0, .int .u8 0, .int .u8 0, .int .u8 0, .int .u16 0, .int .u16 0]) ?_ 3 _ rfl; (with_reducible repeat (first | refine blk_drewN ?_ _ | refine blk_drew ?_ | refine blk_alloc ?_ _)); refine blk_put (cs := #[.int .u8 t325, .int .u8 t326, .int .u8 0, .int .u8 0, .int .u8 0, .int .u8 0, .int .u8 0, .int .u8 0, .int .u16 0, .int .u16 0]) ?_ 2 _ rfl; (with_reducible repeat (first | refine blk_drewN ?_ _ | refine blk_drew ?_ | refine blk_alloc ?_ _)); refine blk_put (cs := #[.int .u8 t325, .int .u8 0, .int .u8 0, .int .u8 0, .int .u8 0, .int .u8 0, .int .u8 0, .int .u8 0, .int .u16 0, .int .u16 0]) ?_ 1 _ rfl; (with_reducible repeat (first | refine blk_drewN ?_ _ | refine blk_drew ?_ | refine blk_alloc ?_ _)); refine blk_put (cs := #[.int .u8 0, .int .u8 0, .int .u8 0, .int .u8 0, .int .u8 0, .int .u8 0, .int .u8 0, .int .u8 0, .int .u16 0, .int .u16 0]) ?_ 0 _ rfl; (with_reducible repeat (first | refine blk_drewN ?_ _ | refine blk_drew ?_ | refine blk_alloc ?_ _)); exact BK336.out⟩, ⟨by repeat (first | (with_reducible first | exact HB.out | apply below_alloc | apply pw_below_drewN | apply below_drew1 | refine below_set ?_ GE311.out | refine below_set ?_ GE324.out | refine below_set ?_ GE336.out) | exact HB.out)⟩⟩
    case round =>
      clear H'
      try clear c1
      try clear c2
      try clear p2
      try clear p6
      try clear c8
      try clear c8b0
      try clear c8b1
      try clear c9
      try clear c12
      try clear c14
      try clear c19
      try clear c20
      try clear hcz11_0
      try clear hcz11_1
      try clear hcz11_2
      try clear hcz11_3
      try clear hcz11_4
      try clear hcz11_5
      try clear hcz11_6
      try clear hcz11_7
      try clear hcz11_8
      try clear hcz11_9
      try clear hcz15_0
      try clear hcz15_1
      try clear hcz15_2
      try clear hcz15_3
      try clear hcz15_4
      try clear hcz15_5
      try clear hcz15_6
      try clear hcz15_7
      try clear hcz15_8
      try clear hcz15_9
      try clear hcz16_0
      try clear hcz16_1
      try clear hcz16_2
      try clear hcz16_3
      try clear hcz16_4
      try clear hcz16_5
      try clear hcz16_6
      try clear hcz16_7
      try clear hcz16_8
      try clear hcz16_9
      try clear hcz21_0
      try clear hcz21_1
      try clear hcz21_2
      try clear hcz21_3
      try clear hcz21_4
      try clear hcz21_5
      try clear hcz21_6
      try clear hcz21_7
      try clear hcz21_8
      try clear hcz21_9
      try clear hfz11_0
      try clear hfz11_1
      try clear hfz11_2
      try clear hfz11_3
      try clear hfz11_4
      try clear hfz11_5
      try clear hfz11_6
      try clear hfz11_7
      try clear hfz11_8
      try clear hfz11_9
      try clear hfz15_0
      try clear hfz15_1
      try clear hfz15_2
      try clear hfz15_3
      try clear hfz15_4
      try clear hfz15_5
      try clear hfz15_6
      try clear hfz15_7
      try clear hfz15_8
      try clear hfz15_9
      try clear hfz16_0
      try clear hfz16_1
      try clear hfz16_2
      try clear hfz16_3
      try clear hfz16_4
      try clear hfz16_5
      try clear hfz16_6
      try clear hfz16_7
      try clear hfz16_8
      try clear hfz16_9
      try clear hfz21_0
      try clear hfz21_1
      try clear hfz21_2
      try clear hfz21_3
      try clear hfz21_4
      try clear hfz21_5
      try clear hfz21_6
      try clear hfz21_7
      try clear hfz21_8
      try clear hfz21_9
      obtain ⟨x16_1, rfl, HA, HK1, BK311, BK324, BK336, HB⟩ := hrel
      cases gk with
      | zero => exact absurd HA.out (by simp [whirligiglaw04_RegsApart.l0])
      | succ k1 =>
        have H := HA.out
        clear HA
        simp only [whirligiglaw04_RegsApart.l0] at H
        by_cases c22 : x16_1 < 8
        · rw [if_pos c22] at H
          have c22b0 : decide (x16_1 < 8) = true := decide_eq_true c22
          clear c22
          replace H := Option.bind_eq_some_iff.mp H
          obtain ⟨⟨t337, t338⟩, A230, H⟩ := H
          replace H : ((regs_Get.f t313 t314 t315 t316 t317 t318 t319 t320 t321 t322 x16_1).bind fun bt339 => (if t323 = 0 then (if x16_1 = (wrap64 (Int.tmod a1 8)) then (whirligiglaw04_RegsApart.l0 k1 a3 t312 (wrap64 (Int.tmod a1 8)) (wrap64 (Int.tmod a1 5)) t323 (wrap64 (x16_1 + 1)) a0_0 a0_1 a0_2 a0_3 a0_4 a0_5 a0_6 a0_7 a0_8 a0_9 t313 t314 t315 t316 t317 t318 t319 t320 t321 t322 t325 t326 t327 t328 t329 t330 t331 t332 t333 t334) else (if t337 = bt339.1 then (whirligiglaw04_RegsApart.l0 k1 a3 t312 (wrap64 (Int.tmod a1 8)) (wrap64 (Int.tmod a1 5)) t323 (wrap64 (x16_1 + 1)) a0_0 a0_1 a0_2 a0_3 a0_4 a0_5 a0_6 a0_7 a0_8 a0_9 t313 t314 t315 t316 t317 t318 t319 t320 t321 t322 t325 t326 t327 t328 t329 t330 t331 t332 t333 t334) else (some false))) else (whirligiglaw04_RegsApart.l0 k1 a3 t312 (wrap64 (Int.tmod a1 8)) (wrap64 (Int.tmod a1 5)) t323 (wrap64 (x16_1 + 1)) a0_0 a0_1 a0_2 a0_3 a0_4 a0_5 a0_6 a0_7 a0_8 a0_9 t313 t314 t315 t316 t317 t318 t319 t320 t321 t322 t325 t326 t327 t328 t329 t330 t331 t332 t333 t334))) = some r := H
          have A23 := Aside0.mk A230
          clear A230
          replace H := Option.bind_eq_some_iff.mp H
          obtain ⟨⟨t339, t340⟩, A240, H⟩ := H
          replace H : (if t323 = 0 then (if x16_1 = (wrap64 (Int.tmod a1 8)) then (whirligiglaw04_RegsApart.l0 k1 a3 t312 (wrap64 (Int.tmod a1 8)) (wrap64 (Int.tmod a1 5)) t323 (wrap64 (x16_1 + 1)) a0_0 a0_1 a0_2 a0_3 a0_4 a0_5 a0_6 a0_7 a0_8 a0_9 t313 t314 t315 t316 t317 t318 t319 t320 t321 t322 t325 t326 t327 t328 t329 t330 t331 t332 t333 t334) else (if t337 = t339 then (whirligiglaw04_RegsApart.l0 k1 a3 t312 (wrap64 (Int.tmod a1 8)) (wrap64 (Int.tmod a1 5)) t323 (wrap64 (x16_1 + 1)) a0_0 a0_1 a0_2 a0_3 a0_4 a0_5 a0_6 a0_7 a0_8 a0_9 t313 t314 t315 t316 t317 t318 t319 t320 t321 t322 t325 t326 t327 t328 t329 t330 t331 t332 t333 t334) else (some false))) else (whirligiglaw04_RegsApart.l0 k1 a3 t312 (wrap64 (Int.tmod a1 8)) (wrap64 (Int.tmod a1 5)) t323 (wrap64 (x16_1 + 1)) a0_0 a0_1 a0_2 a0_3 a0_4 a0_5 a0_6 a0_7 a0_8 a0_9 t313 t314 t315 t316 t317 t318 t319 t320 t321 t322 t325 t326 t327 t328 t329 t330 t331 t332 t333 t334)) = some r := H
          have A24 := Aside0.mk A240
          clear A240
          by_cases c25 : t323 = 0
          · rw [if_pos c25] at H
            have c25b0 : (t323 == 0) = true := beq_iff_eq.mpr c25
            have c25b1 : (t323 != 0) = false := bne_eq_false_iff_eq.mpr c25
            clear c25
            by_cases c26 : x16_1 = (wrap64 (Int.tmod a1 8))
            · rw [if_pos c26] at H
              have c26b0 : (x16_1 == (wrap64 (Int.tmod a1 8))) = true := beq_iff_eq.mpr c26
              have c26b1 : (x16_1 != (wrap64 (Int.tmod a1 8))) = false := bne_eq_false_iff_eq.mpr c26
              clear c26
              have H' := Aside0.mk H
              clear H
              have hnb27 := NB311_324.out
              have hnc27 := NB324_311.out
              have hnb28 := NB311_336.out
              have hnc28 := NB336_311.out
              have hcz29_0 : wr.cell? ⟨gb311, 0, none⟩ = some (.int .u8 a0_0) := (blk_cell BK311.out 0).trans rfl
              have hcz29_1 : wr.cell? ⟨gb311, 1, none⟩ = some (.int .u8 a0_1) := (blk_cell BK311.out 1).trans rfl
              have hcz29_2 : wr.cell? ⟨gb311, 2, none⟩ = some (.int .u8 a0_2) := (blk_cell BK311.out 2).trans rfl
              have hcz29_3 : wr.cell? ⟨gb311, 3, none⟩ = some (.int .u8 a0_3) := (blk_cell BK311.out 3).trans rfl
              have hcz29_4 : wr.cell? ⟨gb311, 4, none⟩ = some (.int .u8 a0_4) := (blk_cell BK311.out 4).trans rfl
              have hcz29_5 : wr.cell? ⟨gb311, 5, none⟩ = some (.int .u8 a0_5) := (blk_cell BK311.out 5).trans rfl
              have hcz29_6 : wr.cell? ⟨gb311, 6, none⟩ = some (.int .u8 a0_6) := (blk_cell BK311.out 6).trans rfl
              have hcz29_7 : wr.cell? ⟨gb311, 7, none⟩ = some (.int .u8 a0_7) := (blk_cell BK311.out 7).trans rfl
              have hcz29_8 : wr.cell? ⟨gb311, 8, none⟩ = some (.int .u16 a0_8) := (blk_cell BK311.out 8).trans rfl
              have hcz29_9 : wr.cell? ⟨gb311, 9, none⟩ = some (.int .u16 a0_9) := (blk_cell BK311.out 9).trans rfl
              have hfz29_0 := blk_frozen BK311.out 0
              have hfz29_1 := blk_frozen BK311.out 1
              have hfz29_2 := blk_frozen BK311.out 2
              have hfz29_3 := blk_frozen BK311.out 3
              have hfz29_4 := blk_frozen BK311.out 4
              have hfz29_5 := blk_frozen BK311.out 5
              have hfz29_6 := blk_frozen BK311.out 6
              have hfz29_7 := blk_frozen BK311.out 7
              have hfz29_8 := blk_frozen BK311.out 8
              have hfz29_9 := blk_frozen BK311.out 9
              go_wp2_with (first | ((with_reducible refine gate_callee (f := 13) rfl ?_); refine goesL_ (some 56) rfl rfl Try.func13 (by kernel_rfl) rfl #[.agg #[.int .u8 a0_0, .int .u8 a0_1, .int .u8 a0_2, .int .u8 a0_3, .int .u8 a0_4, .int .u8 a0_5, .int .u8 a0_6, .int .u8 a0_7, .int .u16 a0_8, .int .u16 a0_9], .int .i64 x16_1] rfl (by (try simp only [List.map_toArray, List.map_cons, List.map_nil]); first | done | rfl | (simp only [List.length_drop, List.length_take]; rfl)) ?_; (with_reducible refine (regs_Get.calls a0_0 a0_1 a0_2 a0_3 a0_4 a0_5 a0_6 a0_7 a0_8 a0_9 x16_1 t337 t338 _ A23.out).mono ?_); rintro e w30 ⟨rfl, hb⟩; refine ⟨_, rfl, ?_⟩; have n0_ := Aside0.mk (blk_below (g := gb311) (o := .cells #[.int .u8 a0_0, .int .u8 a0_1, .int .u8 a0_2, .int .u8 a0_3, .int .u8 a0_4, .int .u8 a0_5, .int .u8 a0_6, .int .u8 a0_7, .int .u16 a0_8, .int .u16 a0_9] 24 (0, 0)) (by (with_reducible repeat (first | refine blk_drewN ?_ _ | refine blk_drew ?_ | refine blk_alloc ?_ _)); exact BK311.out) hb); have n1_ := Aside0.mk (blk_below (g := gb324) (o := .cells #[.int .u8 t313, .int .u8 t314, .int .u8 t315, .int .u8 t316, .int .u8 t317, .int .u8 t318, .int .u8 t319, .int .u8 t320, .int .u16 t321, .int .u16 t322] 24 (0, 0)) (by (with_reducible repeat (first | refine blk_drewN ?_ _ | refine blk_drew ?_ | refine blk_alloc ?_ _)); exact BK324.out) hb); have n2_ := Aside0.mk (blk_below (g := gb336) (o := .cells #[.int .u8 t325, .int .u8 t326, .int .u8 t327, .int .u8 t328, .int .u8 t329, .int .u8 t330, .int .u8 t331, .int .u8 t332, .int .u16 t333, .int .u16 t334] 24 (0, 0)) (by (with_reducible repeat (first | refine blk_drewN ?_ _ | refine blk_drew ?_ | refine blk_alloc ?_ _)); exact BK336.out) hb); have n3_ := Aside0.mk (below_step (by repeat (first | (with_reducible first | exact HB.out | apply below_alloc | apply pw_below_drewN | apply below_drew1 | refine below_set ?_ GE311.out | refine below_set ?_ GE324.out | refine below_set ?_ GE336.out) | exact HB.out)) hb); clear BK311; clear BK324; clear BK336; clear HB; have BK311 := n0_; have BK324 := n1_; have BK336 := n2_; have HB := n3_; clear n0_ n1_ n2_ n3_; (try clear hb); (try clear hb2); (try clear hk); (try clear hi); have hnb31 := NB324_336.out; have hnc31 := NB336_324.out; have hcz32_0 : w30.cell? ⟨gb324, 0, none⟩ = some (.int .u8 t313) := (blk_cell BK324.out 0).trans rfl; have hcz32_1 : w30.cell? ⟨gb324, 1, none⟩ = some (.int .u8 t314) := (blk_cell BK324.out 1).trans rfl; have hcz32_2 : w30.cell? ⟨gb324, 2, none⟩ = some (.int .u8 t315) := (blk_cell BK324.out 2).trans rfl; have hcz32_3 : w30.cell? ⟨gb324, 3, none⟩ = some (.int .u8 t316) := (blk_cell BK324.out 3).trans rfl; have hcz32_4 : w30.cell? ⟨gb324, 4, none⟩ = some (.int .u8 t317) := (blk_cell BK324.out 4).trans rfl; have hcz32_5 : w30.cell? ⟨gb324, 5, none⟩ = some (.int .u8 t318) := (blk_cell BK324.out 5).trans rfl; have hcz32_6 : w30.cell? ⟨gb324, 6, none⟩ = some (.int .u8 t319) := (blk_cell BK324.out 6).trans rfl; have hcz32_7 : w30.cell? ⟨gb324, 7, none⟩ = some (.int .u8 t320) := (blk_cell BK324.out 7).trans rfl; have hcz32_8 : w30.cell? ⟨gb324, 8, none⟩ = some (.int .u16 t321) := (blk_cell BK324.out 8).trans rfl; have hcz32_9 : w30.cell? ⟨gb324, 9, none⟩ = some (.int .u16 t322) := (blk_cell BK324.out 9).trans rfl; have hfz32_0 := blk_frozen BK324.out 0; have hfz32_1 := blk_frozen BK324.out 1; have hfz32_2 := blk_frozen BK324.out 2; have hfz32_3 := blk_frozen BK324.out 3; have hfz32_4 := blk_frozen BK324.out 4; have hfz32_5 := blk_frozen BK324.out 5; have hfz32_6 := blk_frozen BK324.out 6; have hfz32_7 := blk_frozen BK324.out 7; have hfz32_8 := blk_frozen BK324.out 8; have hfz32_9 := blk_frozen BK324.out 9) | ((with_reducible refine gate_callee (f := 13) rfl ?_); refine goesL_ (some 62) rfl rfl Try.func13 (by kernel_rfl) rfl #[.agg #[.int .u8 t313, .int .u8 t314, .int .u8 t315, .int .u8 t316, .int .u8 t317, .int .u8 t318, .int .u8 t319, .int .u8 t320, .int .u16 t321, .int .u16 t322], .int .i64 x16_1] rfl (by (try simp only [List.map_toArray, List.map_cons, List.map_nil]); first | done | rfl | (simp only [List.length_drop, List.length_take]; rfl)) ?_; (with_reducible refine (regs_Get.calls t313 t314 t315 t316 t317 t318 t319 t320 t321 t322 x16_1 t339 t340 _ A24.out).mono ?_); rintro e w33 ⟨rfl, hb⟩; refine ⟨_, rfl, ?_⟩; have n0_ := Aside0.mk (blk_below (g := gb311) (o := .cells #[.int .u8 a0_0, .int .u8 a0_1, .int .u8 a0_2, .int .u8 a0_3, .int .u8 a0_4, .int .u8 a0_5, .int .u8 a0_6, .int .u8 a0_7, .int .u16 a0_8, .int .u16 a0_9] 24 (0, 0)) (by (with_reducible repeat (first | refine blk_drewN ?_ _ | refine blk_drew ?_ | refine blk_alloc ?_ _)); exact BK311.out) hb); have n1_ := Aside0.mk (blk_below (g := gb324) (o := .cells #[.int .u8 t313, .int .u8 t314, .int .u8 t315, .int .u8 t316, .int .u8 t317, .int .u8 t318, .int .u8 t319, .int .u8 t320, .int .u16 t321, .int .u16 t322] 24 (0, 0)) (by (with_reducible repeat (first | refine blk_drewN ?_ _ | refine blk_drew ?_ | refine blk_alloc ?_ _)); exact BK324.out) hb); have n2_ := Aside0.mk (blk_below (g := gb336) (o := .cells #[.int .u8 t325, .int .u8 t326, .int .u8 t327, .int .u8 t328, .int .u8 t329, .int .u8 t330, .int .u8 t331, .int .u8 t332, .int .u16 t333, .int .u16 t334] 24 (0, 0)) (by (with_reducible repeat (first | refine blk_drewN ?_ _ | refine blk_drew ?_ | refine blk_alloc ?_ _)); exact BK336.out) hb); have n3_ := Aside0.mk (below_step (by repeat (first | (with_reducible first | exact HB.out | apply below_alloc | apply pw_below_drewN | apply below_drew1 | refine below_set ?_ GE311.out | refine below_set ?_ GE324.out | refine below_set ?_ GE336.out) | exact HB.out)) hb); clear BK311; clear BK324; clear BK336; clear HB; have BK311 := n0_; have BK324 := n1_; have BK336 := n2_; have HB := n3_; clear n0_ n1_ n2_ n3_; (try clear hb); (try clear hb2); (try clear hk); (try clear hi)))
              go_roundg k1
              case measure => have := HK1.out; omega
              case rel => exact ⟨(wrap64 (x16_1 + 1)), (by first | rfl | (simp; done) | (simp [*]; done)), H', ⟨by have := HK1.out; omega⟩, ⟨by (with_reducible repeat (first | refine blk_drewN ?_ _ | refine blk_drew ?_ | refine blk_alloc ?_ _)); exact BK311.out⟩, ⟨by (with_reducible repeat (first | refine blk_drewN ?_ _ | refine blk_drew ?_ | refine blk_alloc ?_ _)); exact BK324.out⟩, ⟨by (with_reducible repeat (first | refine blk_drewN ?_ _ | refine blk_drew ?_ | refine blk_alloc ?_ _)); exact BK336.out⟩, ⟨by repeat (first | (with_reducible first | exact HB.out | apply below_alloc | apply pw_below_drewN | apply below_drew1 | refine below_set ?_ GE311.out | refine below_set ?_ GE324.out | refine below_set ?_ GE336.out) | exact HB.out)⟩⟩
            · rw [if_neg c26] at H
              have c26b0 : (x16_1 == (wrap64 (Int.tmod a1 8))) = false := beq_eq_false_iff_ne.mpr c26
              have c26b1 : (x16_1 != (wrap64 (Int.tmod a1 8))) = true := bne_iff_ne.mpr c26
              by_cases c34 : t337 = t339
              · rw [if_pos c34] at H
                have c34b0 : (t337 == t339) = true := beq_iff_eq.mpr c34
                have c34b1 : (t337 != t339) = false := bne_eq_false_iff_eq.mpr c34
                clear c34
                have H' := Aside0.mk H
                clear H
                have hnb35 := NB311_324.out
                have hnc35 := NB324_311.out
                have hnb36 := NB311_336.out
                have hnc36 := NB336_311.out
                have hcz37_0 : wr.cell? ⟨gb311, 0, none⟩ = some (.int .u8 a0_0) := (blk_cell BK311.out 0).trans rfl
                have hcz37_1 : wr.cell? ⟨gb311, 1, none⟩ = some (.int .u8 a0_1) := (blk_cell BK311.out 1).trans rfl
                have hcz37_2 : wr.cell? ⟨gb311, 2, none⟩ = some (.int .u8 a0_2) := (blk_cell BK311.out 2).trans rfl
                have hcz37_3 : wr.cell? ⟨gb311, 3, none⟩ = some (.int .u8 a0_3) := (blk_cell BK311.out 3).trans rfl
                have hcz37_4 : wr.cell? ⟨gb311, 4, none⟩ = some (.int .u8 a0_4) := (blk_cell BK311.out 4).trans rfl
                have hcz37_5 : wr.cell? ⟨gb311, 5, none⟩ = some (.int .u8 a0_5) := (blk_cell BK311.out 5).trans rfl
                have hcz37_6 : wr.cell? ⟨gb311, 6, none⟩ = some (.int .u8 a0_6) := (blk_cell BK311.out 6).trans rfl
                have hcz37_7 : wr.cell? ⟨gb311, 7, none⟩ = some (.int .u8 a0_7) := (blk_cell BK311.out 7).trans rfl
                have hcz37_8 : wr.cell? ⟨gb311, 8, none⟩ = some (.int .u16 a0_8) := (blk_cell BK311.out 8).trans rfl
                have hcz37_9 : wr.cell? ⟨gb311, 9, none⟩ = some (.int .u16 a0_9) := (blk_cell BK311.out 9).trans rfl
                have hfz37_0 := blk_frozen BK311.out 0
                have hfz37_1 := blk_frozen BK311.out 1
                have hfz37_2 := blk_frozen BK311.out 2
                have hfz37_3 := blk_frozen BK311.out 3
                have hfz37_4 := blk_frozen BK311.out 4
                have hfz37_5 := blk_frozen BK311.out 5
                have hfz37_6 := blk_frozen BK311.out 6
                have hfz37_7 := blk_frozen BK311.out 7
                have hfz37_8 := blk_frozen BK311.out 8
                have hfz37_9 := blk_frozen BK311.out 9
                go_wp2_with (first | ((with_reducible refine gate_callee (f := 13) rfl ?_); refine goesL_ (some 56) rfl rfl Try.func13 (by kernel_rfl) rfl #[.agg #[.int .u8 a0_0, .int .u8 a0_1, .int .u8 a0_2, .int .u8 a0_3, .int .u8 a0_4, .int .u8 a0_5, .int .u8 a0_6, .int .u8 a0_7, .int .u16 a0_8, .int .u16 a0_9], .int .i64 x16_1] rfl (by (try simp only [List.map_toArray, List.map_cons, List.map_nil]); first | done | rfl | (simp only [List.length_drop, List.length_take]; rfl)) ?_; (with_reducible refine (regs_Get.calls a0_0 a0_1 a0_2 a0_3 a0_4 a0_5 a0_6 a0_7 a0_8 a0_9 x16_1 t337 t338 _ A23.out).mono ?_); rintro e w38 ⟨rfl, hb⟩; refine ⟨_, rfl, ?_⟩; have n0_ := Aside0.mk (blk_below (g := gb311) (o := .cells #[.int .u8 a0_0, .int .u8 a0_1, .int .u8 a0_2, .int .u8 a0_3, .int .u8 a0_4, .int .u8 a0_5, .int .u8 a0_6, .int .u8 a0_7, .int .u16 a0_8, .int .u16 a0_9] 24 (0, 0)) (by (with_reducible repeat (first | refine blk_drewN ?_ _ | refine blk_drew ?_ | refine blk_alloc ?_ _)); exact BK311.out) hb); have n1_ := Aside0.mk (blk_below (g := gb324) (o := .cells #[.int .u8 t313, .int .u8 t314, .int .u8 t315, .int .u8 t316, .int .u8 t317, .int .u8 t318, .int .u8 t319, .int .u8 t320, .int .u16 t321, .int .u16 t322] 24 (0, 0)) (by (with_reducible repeat (first | refine blk_drewN ?_ _ | refine blk_drew ?_ | refine blk_alloc ?_ _)); exact BK324.out) hb); have n2_ := Aside0.mk (blk_below (g := gb336) (o := .cells #[.int .u8 t325, .int .u8 t326, .int .u8 t327, .int .u8 t328, .int .u8 t329, .int .u8 t330, .int .u8 t331, .int .u8 t332, .int .u16 t333, .int .u16 t334] 24 (0, 0)) (by (with_reducible repeat (first | refine blk_drewN ?_ _ | refine blk_drew ?_ | refine blk_alloc ?_ _)); exact BK336.out) hb); have n3_ := Aside0.mk (below_step (by repeat (first | (with_reducible first | exact HB.out | apply below_alloc | apply pw_below_drewN | apply below_drew1 | refine below_set ?_ GE311.out | refine below_set ?_ GE324.out | refine below_set ?_ GE336.out) | exact HB.out)) hb); clear BK311; clear BK324; clear BK336; clear HB; have BK311 := n0_; have BK324 := n1_; have BK336 := n2_; have HB := n3_; clear n0_ n1_ n2_ n3_; (try clear hb); (try clear hb2); (try clear hk); (try clear hi); have hnb39 := NB324_336.out; have hnc39 := NB336_324.out; have hcz40_0 : w38.cell? ⟨gb324, 0, none⟩ = some (.int .u8 t313) := (blk_cell BK324.out 0).trans rfl; have hcz40_1 : w38.cell? ⟨gb324, 1, none⟩ = some (.int .u8 t314) := (blk_cell BK324.out 1).trans rfl; have hcz40_2 : w38.cell? ⟨gb324, 2, none⟩ = some (.int .u8 t315) := (blk_cell BK324.out 2).trans rfl; have hcz40_3 : w38.cell? ⟨gb324, 3, none⟩ = some (.int .u8 t316) := (blk_cell BK324.out 3).trans rfl; have hcz40_4 : w38.cell? ⟨gb324, 4, none⟩ = some (.int .u8 t317) := (blk_cell BK324.out 4).trans rfl; have hcz40_5 : w38.cell? ⟨gb324, 5, none⟩ = some (.int .u8 t318) := (blk_cell BK324.out 5).trans rfl; have hcz40_6 : w38.cell? ⟨gb324, 6, none⟩ = some (.int .u8 t319) := (blk_cell BK324.out 6).trans rfl; have hcz40_7 : w38.cell? ⟨gb324, 7, none⟩ = some (.int .u8 t320) := (blk_cell BK324.out 7).trans rfl; have hcz40_8 : w38.cell? ⟨gb324, 8, none⟩ = some (.int .u16 t321) := (blk_cell BK324.out 8).trans rfl; have hcz40_9 : w38.cell? ⟨gb324, 9, none⟩ = some (.int .u16 t322) := (blk_cell BK324.out 9).trans rfl; have hfz40_0 := blk_frozen BK324.out 0; have hfz40_1 := blk_frozen BK324.out 1; have hfz40_2 := blk_frozen BK324.out 2; have hfz40_3 := blk_frozen BK324.out 3; have hfz40_4 := blk_frozen BK324.out 4; have hfz40_5 := blk_frozen BK324.out 5; have hfz40_6 := blk_frozen BK324.out 6; have hfz40_7 := blk_frozen BK324.out 7; have hfz40_8 := blk_frozen BK324.out 8; have hfz40_9 := blk_frozen BK324.out 9) | ((with_reducible refine gate_callee (f := 13) rfl ?_); refine goesL_ (some 62) rfl rfl Try.func13 (by kernel_rfl) rfl #[.agg #[.int .u8 t313, .int .u8 t314, .int .u8 t315, .int .u8 t316, .int .u8 t317, .int .u8 t318, .int .u8 t319, .int .u8 t320, .int .u16 t321, .int .u16 t322], .int .i64 x16_1] rfl (by (try simp only [List.map_toArray, List.map_cons, List.map_nil]); first | done | rfl | (simp only [List.length_drop, List.length_take]; rfl)) ?_; (with_reducible refine (regs_Get.calls t313 t314 t315 t316 t317 t318 t319 t320 t321 t322 x16_1 t339 t340 _ A24.out).mono ?_); rintro e w41 ⟨rfl, hb⟩; refine ⟨_, rfl, ?_⟩; have n0_ := Aside0.mk (blk_below (g := gb311) (o := .cells #[.int .u8 a0_0, .int .u8 a0_1, .int .u8 a0_2, .int .u8 a0_3, .int .u8 a0_4, .int .u8 a0_5, .int .u8 a0_6, .int .u8 a0_7, .int .u16 a0_8, .int .u16 a0_9] 24 (0, 0)) (by (with_reducible repeat (first | refine blk_drewN ?_ _ | refine blk_drew ?_ | refine blk_alloc ?_ _)); exact BK311.out) hb); have n1_ := Aside0.mk (blk_below (g := gb324) (o := .cells #[.int .u8 t313, .int .u8 t314, .int .u8 t315, .int .u8 t316, .int .u8 t317, .int .u8 t318, .int .u8 t319, .int .u8 t320, .int .u16 t321, .int .u16 t322] 24 (0, 0)) (by (with_reducible repeat (first | refine blk_drewN ?_ _ | refine blk_drew ?_ | refine blk_alloc ?_ _)); exact BK324.out) hb); have n2_ := Aside0.mk (blk_below (g := gb336) (o := .cells #[.int .u8 t325, .int .u8 t326, .int .u8 t327, .int .u8 t328, .int .u8 t329, .int .u8 t330, .int .u8 t331, .int .u8 t332, .int .u16 t333, .int .u16 t334] 24 (0, 0)) (by (with_reducible repeat (first | refine blk_drewN ?_ _ | refine blk_drew ?_ | refine blk_alloc ?_ _)); exact BK336.out) hb); have n3_ := Aside0.mk (below_step (by repeat (first | (with_reducible first | exact HB.out | apply below_alloc | apply pw_below_drewN | apply below_drew1 | refine below_set ?_ GE311.out | refine below_set ?_ GE324.out | refine below_set ?_ GE336.out) | exact HB.out)) hb); clear BK311; clear BK324; clear BK336; clear HB; have BK311 := n0_; have BK324 := n1_; have BK336 := n2_; have HB := n3_; clear n0_ n1_ n2_ n3_; (try clear hb); (try clear hb2); (try clear hk); (try clear hi)))
                go_roundg k1
                case measure => have := HK1.out; omega
                case rel => exact ⟨(wrap64 (x16_1 + 1)), (by first | rfl | (simp; done) | (simp [*]; done)), H', ⟨by have := HK1.out; omega⟩, ⟨by (with_reducible repeat (first | refine blk_drewN ?_ _ | refine blk_drew ?_ | refine blk_alloc ?_ _)); exact BK311.out⟩, ⟨by (with_reducible repeat (first | refine blk_drewN ?_ _ | refine blk_drew ?_ | refine blk_alloc ?_ _)); exact BK324.out⟩, ⟨by (with_reducible repeat (first | refine blk_drewN ?_ _ | refine blk_drew ?_ | refine blk_alloc ?_ _)); exact BK336.out⟩, ⟨by repeat (first | (with_reducible first | exact HB.out | apply below_alloc | apply pw_below_drewN | apply below_drew1 | refine below_set ?_ GE311.out | refine below_set ?_ GE324.out | refine below_set ?_ GE336.out) | exact HB.out)⟩⟩
              · rw [if_neg c34] at H
                have c34b0 : (t337 == t339) = false := beq_eq_false_iff_ne.mpr c34
                have c34b1 : (t337 != t339) = true := bne_iff_ne.mpr c34
                exact absurd ((Option.some.inj H).trans HT.out) (by simp)
          · rw [if_neg c25] at H
            have c25b0 : (t323 == 0) = false := beq_eq_false_iff_ne.mpr c25
            have c25b1 : (t323 != 0) = true := bne_iff_ne.mpr c25
            have H' := Aside0.mk H
            clear H
            have hnb49 := NB311_324.out
            have hnc49 := NB324_311.out
            have hnb50 := NB311_336.out
            have hnc50 := NB336_311.out
            have hcz51_0 : wr.cell? ⟨gb311, 0, none⟩ = some (.int .u8 a0_0) := (blk_cell BK311.out 0).trans rfl
            have hcz51_1 : wr.cell? ⟨gb311, 1, none⟩ = some (.int .u8 a0_1) := (blk_cell BK311.out 1).trans rfl
            have hcz51_2 : wr.cell? ⟨gb311, 2, none⟩ = some (.int .u8 a0_2) := (blk_cell BK311.out 2).trans rfl
            have hcz51_3 : wr.cell? ⟨gb311, 3, none⟩ = some (.int .u8 a0_3) := (blk_cell BK311.out 3).trans rfl
            have hcz51_4 : wr.cell? ⟨gb311, 4, none⟩ = some (.int .u8 a0_4) := (blk_cell BK311.out 4).trans rfl
            have hcz51_5 : wr.cell? ⟨gb311, 5, none⟩ = some (.int .u8 a0_5) := (blk_cell BK311.out 5).trans rfl
            have hcz51_6 : wr.cell? ⟨gb311, 6, none⟩ = some (.int .u8 a0_6) := (blk_cell BK311.out 6).trans rfl
            have hcz51_7 : wr.cell? ⟨gb311, 7, none⟩ = some (.int .u8 a0_7) := (blk_cell BK311.out 7).trans rfl
            have hcz51_8 : wr.cell? ⟨gb311, 8, none⟩ = some (.int .u16 a0_8) := (blk_cell BK311.out 8).trans rfl
            have hcz51_9 : wr.cell? ⟨gb311, 9, none⟩ = some (.int .u16 a0_9) := (blk_cell BK311.out 9).trans rfl
            have hfz51_0 := blk_frozen BK311.out 0
            have hfz51_1 := blk_frozen BK311.out 1
            have hfz51_2 := blk_frozen BK311.out 2
            have hfz51_3 := blk_frozen BK311.out 3
            have hfz51_4 := blk_frozen BK311.out 4
            have hfz51_5 := blk_frozen BK311.out 5
            have hfz51_6 := blk_frozen BK311.out 6
            have hfz51_7 := blk_frozen BK311.out 7
            have hfz51_8 := blk_frozen BK311.out 8
            have hfz51_9 := blk_frozen BK311.out 9
            go_wp2_with (first | ((with_reducible refine gate_callee (f := 13) rfl ?_); refine goesL_ (some 56) rfl rfl Try.func13 (by kernel_rfl) rfl #[.agg #[.int .u8 a0_0, .int .u8 a0_1, .int .u8 a0_2, .int .u8 a0_3, .int .u8 a0_4, .int .u8 a0_5, .int .u8 a0_6, .int .u8 a0_7, .int .u16 a0_8, .int .u16 a0_9], .int .i64 x16_1] rfl (by (try simp only [List.map_toArray, List.map_cons, List.map_nil]); first | done | rfl | (simp only [List.length_drop, List.length_take]; rfl)) ?_; (with_reducible refine (regs_Get.calls a0_0 a0_1 a0_2 a0_3 a0_4 a0_5 a0_6 a0_7 a0_8 a0_9 x16_1 t337 t338 _ A23.out).mono ?_); rintro e w52 ⟨rfl, hb⟩; refine ⟨_, rfl, ?_⟩; have n0_ := Aside0.mk (blk_below (g := gb311) (o := .cells #[.int .u8 a0_0, .int .u8 a0_1, .int .u8 a0_2, .int .u8 a0_3, .int .u8 a0_4, .int .u8 a0_5, .int .u8 a0_6, .int .u8 a0_7, .int .u16 a0_8, .int .u16 a0_9] 24 (0, 0)) (by (with_reducible repeat (first | refine blk_drewN ?_ _ | refine blk_drew ?_ | refine blk_alloc ?_ _)); exact BK311.out) hb); have n1_ := Aside0.mk (blk_below (g := gb324) (o := .cells #[.int .u8 t313, .int .u8 t314, .int .u8 t315, .int .u8 t316, .int .u8 t317, .int .u8 t318, .int .u8 t319, .int .u8 t320, .int .u16 t321, .int .u16 t322] 24 (0, 0)) (by (with_reducible repeat (first | refine blk_drewN ?_ _ | refine blk_drew ?_ | refine blk_alloc ?_ _)); exact BK324.out) hb); have n2_ := Aside0.mk (blk_below (g := gb336) (o := .cells #[.int .u8 t325, .int .u8 t326, .int .u8 t327, .int .u8 t328, .int .u8 t329, .int .u8 t330, .int .u8 t331, .int .u8 t332, .int .u16 t333, .int .u16 t334] 24 (0, 0)) (by (with_reducible repeat (first | refine blk_drewN ?_ _ | refine blk_drew ?_ | refine blk_alloc ?_ _)); exact BK336.out) hb); have n3_ := Aside0.mk (below_step (by repeat (first | (with_reducible first | exact HB.out | apply below_alloc | apply pw_below_drewN | apply below_drew1 | refine below_set ?_ GE311.out | refine below_set ?_ GE324.out | refine below_set ?_ GE336.out) | exact HB.out)) hb); clear BK311; clear BK324; clear BK336; clear HB; have BK311 := n0_; have BK324 := n1_; have BK336 := n2_; have HB := n3_; clear n0_ n1_ n2_ n3_; (try clear hb); (try clear hb2); (try clear hk); (try clear hi); have hnb53 := NB324_336.out; have hnc53 := NB336_324.out; have hcz54_0 : w52.cell? ⟨gb324, 0, none⟩ = some (.int .u8 t313) := (blk_cell BK324.out 0).trans rfl; have hcz54_1 : w52.cell? ⟨gb324, 1, none⟩ = some (.int .u8 t314) := (blk_cell BK324.out 1).trans rfl; have hcz54_2 : w52.cell? ⟨gb324, 2, none⟩ = some (.int .u8 t315) := (blk_cell BK324.out 2).trans rfl; have hcz54_3 : w52.cell? ⟨gb324, 3, none⟩ = some (.int .u8 t316) := (blk_cell BK324.out 3).trans rfl; have hcz54_4 : w52.cell? ⟨gb324, 4, none⟩ = some (.int .u8 t317) := (blk_cell BK324.out 4).trans rfl; have hcz54_5 : w52.cell? ⟨gb324, 5, none⟩ = some (.int .u8 t318) := (blk_cell BK324.out 5).trans rfl; have hcz54_6 : w52.cell? ⟨gb324, 6, none⟩ = some (.int .u8 t319) := (blk_cell BK324.out 6).trans rfl; have hcz54_7 : w52.cell? ⟨gb324, 7, none⟩ = some (.int .u8 t320) := (blk_cell BK324.out 7).trans rfl; have hcz54_8 : w52.cell? ⟨gb324, 8, none⟩ = some (.int .u16 t321) := (blk_cell BK324.out 8).trans rfl; have hcz54_9 : w52.cell? ⟨gb324, 9, none⟩ = some (.int .u16 t322) := (blk_cell BK324.out 9).trans rfl; have hfz54_0 := blk_frozen BK324.out 0; have hfz54_1 := blk_frozen BK324.out 1; have hfz54_2 := blk_frozen BK324.out 2; have hfz54_3 := blk_frozen BK324.out 3; have hfz54_4 := blk_frozen BK324.out 4; have hfz54_5 := blk_frozen BK324.out 5; have hfz54_6 := blk_frozen BK324.out 6; have hfz54_7 := blk_frozen BK324.out 7; have hfz54_8 := blk_frozen BK324.out 8; have hfz54_9 := blk_frozen BK324.out 9) | ((with_reducible refine gate_callee (f := 13) rfl ?_); refine goesL_ (some 62) rfl rfl Try.func13 (by kernel_rfl) rfl #[.agg #[.int .u8 t313, .int .u8 t314, .int .u8 t315, .int .u8 t316, .int .u8 t317, .int .u8 t318, .int .u8 t319, .int .u8 t320, .int .u16 t321, .int .u16 t322], .int .i64 x16_1] rfl (by (try simp only [List.map_toArray, List.map_cons, List.map_nil]); first | done | rfl | (simp only [List.length_drop, List.length_take]; rfl)) ?_; (with_reducible refine (regs_Get.calls t313 t314 t315 t316 t317 t318 t319 t320 t321 t322 x16_1 t339 t340 _ A24.out).mono ?_); rintro e w55 ⟨rfl, hb⟩; refine ⟨_, rfl, ?_⟩; have n0_ := Aside0.mk (blk_below (g := gb311) (o := .cells #[.int .u8 a0_0, .int .u8 a0_1, .int .u8 a0_2, .int .u8 a0_3, .int .u8 a0_4, .int .u8 a0_5, .int .u8 a0_6, .int .u8 a0_7, .int .u16 a0_8, .int .u16 a0_9] 24 (0, 0)) (by (with_reducible repeat (first | refine blk_drewN ?_ _ | refine blk_drew ?_ | refine blk_alloc ?_ _)); exact BK311.out) hb); have n1_ := Aside0.mk (blk_below (g := gb324) (o := .cells #[.int .u8 t313, .int .u8 t314, .int .u8 t315, .int .u8 t316, .int .u8 t317, .int .u8 t318, .int .u8 t319, .int .u8 t320, .int .u16 t321, .int .u16 t322] 24 (0, 0)) (by (with_reducible repeat (first | refine blk_drewN ?_ _ | refine blk_drew ?_ | refine blk_alloc ?_ _)); exact BK324.out) hb); have n2_ := Aside0.mk (blk_below (g := gb336) (o := .cells #[.int .u8 t325, .int .u8 t326, .int .u8 t327, .int .u8 t328, .int .u8 t329, .int .u8 t330, .int .u8 t331, .int .u8 t332, .int .u16 t333, .int .u16 t334] 24 (0, 0)) (by (with_reducible repeat (first | refine blk_drewN ?_ _ | refine blk_drew ?_ | refine blk_alloc ?_ _)); exact BK336.out) hb); have n3_ := Aside0.mk (below_step (by repeat (first | (with_reducible first | exact HB.out | apply below_alloc | apply pw_below_drewN | apply below_drew1 | refine below_set ?_ GE311.out | refine below_set ?_ GE324.out | refine below_set ?_ GE336.out) | exact HB.out)) hb); clear BK311; clear BK324; clear BK336; clear HB; have BK311 := n0_; have BK324 := n1_; have BK336 := n2_; have HB := n3_; clear n0_ n1_ n2_ n3_; (try clear hb); (try clear hb2); (try clear hk); (try clear hi)))
            go_roundg k1
            case measure => have := HK1.out; omega
            case rel => exact ⟨(wrap64 (x16_1 + 1)), (by first | rfl | (simp; done) | (simp [*]; done)), H', ⟨by have := HK1.out; omega⟩, ⟨by (with_reducible repeat (first | refine blk_drewN ?_ _ | refine blk_drew ?_ | refine blk_alloc ?_ _)); exact BK311.out⟩, ⟨by (with_reducible repeat (first | refine blk_drewN ?_ _ | refine blk_drew ?_ | refine blk_alloc ?_ _)); exact BK324.out⟩, ⟨by (with_reducible repeat (first | refine blk_drewN ?_ _ | refine blk_drew ?_ | refine blk_alloc ?_ _)); exact BK336.out⟩, ⟨by repeat (first | (with_reducible first | exact HB.out | apply below_alloc | apply pw_below_drewN | apply below_drew1 | refine below_set ?_ GE311.out | refine below_set ?_ GE324.out | refine below_set ?_ GE336.out) | exact HB.out)⟩⟩
        · rw [if_neg c22] at H
          have c22b0 : decide (x16_1 < 8) = false := decide_eq_false c22
          clear c22
          have H' := Aside0.mk H
          clear H
          go_wp2
          go_loopg [21] k1 (fun kq v21 w' => ∃ (x21_2 : Int), v21 = .int .i64 x21_2 ∧ Aside0 (whirligiglaw04_RegsApart.l1 kq a3 t312 (wrap64 (Int.tmod a1 5)) t323 x21_2 a0_0 a0_1 a0_2 a0_3 a0_4 a0_5 a0_6 a0_7 a0_8 a0_9 t313 t314 t315 t316 t317 t318 t319 t320 t321 t322 t325 t326 t327 t328 t329 t330 t331 t332 t333 t334 = some r) ∧ Aside0 (kq ≤ k1) ∧ Aside0 (w'.heap[gb311]? = some (.cells #[.int .u8 a0_0, .int .u8 a0_1, .int .u8 a0_2, .int .u8 a0_3, .int .u8 a0_4, .int .u8 a0_5, .int .u8 a0_6, .int .u8 a0_7, .int .u16 a0_8, .int .u16 a0_9] 24 (0, 0))) ∧ Aside0 (w'.heap[gb324]? = some (.cells #[.int .u8 t313, .int .u8 t314, .int .u8 t315, .int .u8 t316, .int .u8 t317, .int .u8 t318, .int .u8 t319, .int .u8 t320, .int .u16 t321, .int .u16 t322] 24 (0, 0))) ∧ Aside0 (w'.heap[gb336]? = some (.cells #[.int .u8 t325, .int .u8 t326, .int .u8 t327, .int .u8 t328, .int .u8 t329, .int .u8 t330, .int .u8 t331, .int .u8 t332, .int .u16 t333, .int .u16 t334] 24 (0, 0))) ∧ Aside0 (Below w.heap.size w w'))
          case atStart => exact ⟨(0), (by first | rfl | (simp; done) | (simp [*]; done)), H', ⟨Nat.le_refl _⟩, ⟨by (with_reducible repeat (first | refine blk_drewN ?_ _ | refine blk_drew ?_ | refine blk_alloc ?_ _)); exact BK311.out⟩, ⟨by (with_reducible repeat (first | refine blk_drewN ?_ _ | refine blk_drew ?_ | refine blk_alloc ?_ _)); exact BK324.out⟩, ⟨by (with_reducible repeat (first | refine blk_drewN ?_ _ | refine blk_drew ?_ | refine blk_alloc ?_ _)); exact BK336.out⟩, ⟨by repeat (first | (with_reducible first | exact HB.out | apply below_alloc | apply pw_below_drewN | apply below_drew1 | refine below_set ?_ GE311.out | refine below_set ?_ GE324.out | refine below_set ?_ GE336.out) | exact HB.out)⟩⟩
          case round =>
            clear H'
            try clear c1
            try clear c2
            try clear p2
            try clear c3
            try clear c4
            try clear c5
            try clear p6
            try clear c8
            try clear c8b0
            try clear c8b1
            try clear c9
            try clear c12
            try clear c13
            try clear c14
            try clear c19
            try clear c20
            try clear c22
            try clear c22b0
            try clear c25
            try clear c25b0
            try clear c25b1
            try clear c26
            try clear c26b0
            try clear c26b1
            try clear c27
            try clear c28
            try clear c31
            try clear c34
            try clear c34b0
            try clear c34b1
            try clear c35
            try clear c36
            try clear c39
            try clear c42
            try clear c43
            try clear c46
            try clear c49
            try clear c50
            try clear c53
            try clear hcz11_0
            try clear hcz11_1
            try clear hcz11_2
            try clear hcz11_3
            try clear hcz11_4
            try clear hcz11_5
            try clear hcz11_6
            try clear hcz11_7
            try clear hcz11_8
            try clear hcz11_9
            try clear hcz15_0
            try clear hcz15_1
            try clear hcz15_2
            try clear hcz15_3
            try clear hcz15_4
            try clear hcz15_5
            try clear hcz15_6
            try clear hcz15_7
            try clear hcz15_8
            try clear hcz15_9
            try clear hcz16_0
            try clear hcz16_1
            try clear hcz16_2
            try clear hcz16_3
            try clear hcz16_4
            try clear hcz16_5
            try clear hcz16_6
            try clear hcz16_7
            try clear hcz16_8
            try clear hcz16_9
            try clear hcz21_0
            try clear hcz21_1
            try clear hcz21_2
            try clear hcz21_3
            try clear hcz21_4
            try clear hcz21_5
            try clear hcz21_6
            try clear hcz21_7
            try clear hcz21_8
            try clear hcz21_9
            try clear hcz29_0
            try clear hcz29_1
            try clear hcz29_2
            try clear hcz29_3
            try clear hcz29_4
            try clear hcz29_5
            try clear hcz29_6
            try clear hcz29_7
            try clear hcz29_8
            try clear hcz29_9
            try clear hcz32_0
            try clear hcz32_1
            try clear hcz32_2
            try clear hcz32_3
            try clear hcz32_4
            try clear hcz32_5
            try clear hcz32_6
            try clear hcz32_7
            try clear hcz32_8
            try clear hcz32_9
            try clear hcz37_0
            try clear hcz37_1
            try clear hcz37_2
            try clear hcz37_3
            try clear hcz37_4
            try clear hcz37_5
            try clear hcz37_6
            try clear hcz37_7
            try clear hcz37_8
            try clear hcz37_9
            try clear hcz40_0
            try clear hcz40_1
            try clear hcz40_2
            try clear hcz40_3
            try clear hcz40_4
            try clear hcz40_5
            try clear hcz40_6
            try clear hcz40_7
            try clear hcz40_8
            try clear hcz40_9
            try clear hcz44_0
            try clear hcz44_1
            try clear hcz44_2
            try clear hcz44_3
            try clear hcz44_4
            try clear hcz44_5
            try clear hcz44_6
            try clear hcz44_7
            try clear hcz44_8
            try clear hcz44_9
            try clear hcz47_0
            try clear hcz47_1
            try clear hcz47_2
            try clear hcz47_3
            try clear hcz47_4
            try clear hcz47_5
            try clear hcz47_6
            try clear hcz47_7
            try clear hcz47_8
            try clear hcz47_9
            try clear hcz51_0
            try clear hcz51_1
            try clear hcz51_2
            try clear hcz51_3
            try clear hcz51_4
            try clear hcz51_5
            try clear hcz51_6
            try clear hcz51_7
            try clear hcz51_8
            try clear hcz51_9
            try clear hcz54_0
            try clear hcz54_1
            try clear hcz54_2
            try clear hcz54_3
            try clear hcz54_4
            try clear hcz54_5
            try clear hcz54_6
            try clear hcz54_7
            try clear hcz54_8
            try clear hcz54_9
            try clear hfz11_0
            try clear hfz11_1
            try clear hfz11_2
            try clear hfz11_3
            try clear hfz11_4
            try clear hfz11_5
            try clear hfz11_6
            try clear hfz11_7
            try clear hfz11_8
            try clear hfz11_9
            try clear hfz15_0
            try clear hfz15_1
            try clear hfz15_2
            try clear hfz15_3
            try clear hfz15_4
            try clear hfz15_5
            try clear hfz15_6
            try clear hfz15_7
            try clear hfz15_8
            try clear hfz15_9
            try clear hfz16_0
            try clear hfz16_1
            try clear hfz16_2
            try clear hfz16_3
            try clear hfz16_4
            try clear hfz16_5
            try clear hfz16_6
            try clear hfz16_7
            try clear hfz16_8
            try clear hfz16_9
            try clear hfz21_0
            try clear hfz21_1
            try clear hfz21_2
            try clear hfz21_3
            try clear hfz21_4
            try clear hfz21_5
            try clear hfz21_6
            try clear hfz21_7
            try clear hfz21_8
            try clear hfz21_9
            try clear hfz29_0
            try clear hfz29_1
            try clear hfz29_2
            try clear hfz29_3
            try clear hfz29_4
            try clear hfz29_5
            try clear hfz29_6
            try clear hfz29_7
            try clear hfz29_8
            try clear hfz29_9
            try clear hfz32_0
            try clear hfz32_1
            try clear hfz32_2
            try clear hfz32_3
            try clear hfz32_4
            try clear hfz32_5
            try clear hfz32_6
            try clear hfz32_7
            try clear hfz32_8
            try clear hfz32_9
            try clear hfz37_0
            try clear hfz37_1
            try clear hfz37_2
            try clear hfz37_3
            try clear hfz37_4
            try clear hfz37_5
            try clear hfz37_6
            try clear hfz37_7
            try clear hfz37_8
            try clear hfz37_9
            try clear hfz40_0
            try clear hfz40_1
            try clear hfz40_2
            try clear hfz40_3
            try clear hfz40_4
            try clear hfz40_5
            try clear hfz40_6
            try clear hfz40_7
            try clear hfz40_8
            try clear hfz40_9
            try clear hfz44_0
            try clear hfz44_1
            try clear hfz44_2
            try clear hfz44_3
            try clear hfz44_4
            try clear hfz44_5
            try clear hfz44_6
            try clear hfz44_7
            try clear hfz44_8
            try clear hfz44_9
            try clear hfz47_0
            try clear hfz47_1
            try clear hfz47_2
            try clear hfz47_3
            try clear hfz47_4
            try clear hfz47_5
            try clear hfz47_6
            try clear hfz47_7
            try clear hfz47_8
            try clear hfz47_9
            try clear hfz51_0
            try clear hfz51_1
            try clear hfz51_2
            try clear hfz51_3
            try clear hfz51_4
            try clear hfz51_5
            try clear hfz51_6
            try clear hfz51_7
            try clear hfz51_8
            try clear hfz51_9
            try clear hfz54_0
            try clear hfz54_1
            try clear hfz54_2
            try clear hfz54_3
            try clear hfz54_4
            try clear hfz54_5
            try clear hfz54_6
            try clear hfz54_7
            try clear hfz54_8
            try clear hfz54_9
            try clear p2
            try clear p6
            obtain ⟨x21_2, rfl, HA, HK2, BK311, BK324, BK336, HB⟩ := hrel
            cases gk with
            | zero => exact absurd HA.out (by simp [whirligiglaw04_RegsApart.l1])
            | succ k2 =>
              have H := HA.out
              clear HA
              simp only [whirligiglaw04_RegsApart.l1] at H
              by_cases c56 : x21_2 < 5
              · rw [if_pos c56] at H
                have c56b0 : decide (x21_2 < 5) = true := decide_eq_true c56
                clear c56
                replace H := Option.bind_eq_some_iff.mp H
                obtain ⟨⟨t341, t342⟩, A570, H⟩ := H
                replace H : ((regs_Pair.f t325 t326 t327 t328 t329 t330 t331 t332 t333 t334 x21_2).bind fun bt343 => (if x21_2 = (wrap64 (Int.tmod a1 5)) then (if x21_2 = 4 then (if bt343.1 = (IntKind.u16.wrap ((IntKind.u16.wrap (Int.tdiv a3 16)) * 16)) then (whirligiglaw04_RegsApart.l1 k2 a3 t312 (wrap64 (Int.tmod a1 5)) t323 (wrap64 (x21_2 + 1)) a0_0 a0_1 a0_2 a0_3 a0_4 a0_5 a0_6 a0_7 a0_8 a0_9 t313 t314 t315 t316 t317 t318 t319 t320 t321 t322 t325 t326 t327 t328 t329 t330 t331 t332 t333 t334) else (some false)) else (if bt343.1 = a3 then (whirligiglaw04_RegsApart.l1 k2 a3 t312 (wrap64 (Int.tmod a1 5)) t323 (wrap64 (x21_2 + 1)) a0_0 a0_1 a0_2 a0_3 a0_4 a0_5 a0_6 a0_7 a0_8 a0_9 t313 t314 t315 t316 t317 t318 t319 t320 t321 t322 t325 t326 t327 t328 t329 t330 t331 t332 t333 t334) else (some false))) else (if t341 = bt343.1 then (whirligiglaw04_RegsApart.l1 k2 a3 t312 (wrap64 (Int.tmod a1 5)) t323 (wrap64 (x21_2 + 1)) a0_0 a0_1 a0_2 a0_3 a0_4 a0_5 a0_6 a0_7 a0_8 a0_9 t313 t314 t315 t316 t317 t318 t319 t320 t321 t322 t325 t326 t327 t328 t329 t330 t331 t332 t333 t334) else (some false)))) = some r := H
                have A57 := Aside0.mk A570
                clear A570
                replace H := Option.bind_eq_some_iff.mp H
                obtain ⟨⟨t343, t344⟩, A580, H⟩ := H
                replace H : (if x21_2 = (wrap64 (Int.tmod a1 5)) then (if x21_2 = 4 then (if t343 = (IntKind.u16.wrap ((IntKind.u16.wrap (Int.tdiv a3 16)) * 16)) then (whirligiglaw04_RegsApart.l1 k2 a3 t312 (wrap64 (Int.tmod a1 5)) t323 (wrap64 (x21_2 + 1)) a0_0 a0_1 a0_2 a0_3 a0_4 a0_5 a0_6 a0_7 a0_8 a0_9 t313 t314 t315 t316 t317 t318 t319 t320 t321 t322 t325 t326 t327 t328 t329 t330 t331 t332 t333 t334) else (some false)) else (if t343 = a3 then (whirligiglaw04_RegsApart.l1 k2 a3 t312 (wrap64 (Int.tmod a1 5)) t323 (wrap64 (x21_2 + 1)) a0_0 a0_1 a0_2 a0_3 a0_4 a0_5 a0_6 a0_7 a0_8 a0_9 t313 t314 t315 t316 t317 t318 t319 t320 t321 t322 t325 t326 t327 t328 t329 t330 t331 t332 t333 t334) else (some false))) else (if t341 = t343 then (whirligiglaw04_RegsApart.l1 k2 a3 t312 (wrap64 (Int.tmod a1 5)) t323 (wrap64 (x21_2 + 1)) a0_0 a0_1 a0_2 a0_3 a0_4 a0_5 a0_6 a0_7 a0_8 a0_9 t313 t314 t315 t316 t317 t318 t319 t320 t321 t322 t325 t326 t327 t328 t329 t330 t331 t332 t333 t334) else (some false))) = some r := H
                have A58 := Aside0.mk A580
                clear A580
                by_cases c59 : x21_2 = (wrap64 (Int.tmod a1 5))
                · rw [if_pos c59] at H
                  have c59b0 : (x21_2 == (wrap64 (Int.tmod a1 5))) = true := beq_iff_eq.mpr c59
                  have c59b1 : (x21_2 != (wrap64 (Int.tmod a1 5))) = false := bne_eq_false_iff_eq.mpr c59
                  clear c59
                  by_cases c60 : x21_2 = 4
                  · rw [if_pos c60] at H
                    have c60b0 : (x21_2 == 4) = true := beq_iff_eq.mpr c60
                    have c60b1 : (x21_2 != 4) = false := bne_eq_false_iff_eq.mpr c60
                    clear c60
                    by_cases c61 : t343 = (IntKind.u16.wrap ((IntKind.u16.wrap (Int.tdiv a3 16)) * 16))
                    · rw [if_pos c61] at H
                      have c61b0 : (t343 == (IntKind.u16.wrap ((IntKind.u16.wrap (Int.tdiv a3 16)) * 16))) = true := beq_iff_eq.mpr c61
                      have c61b1 : (t343 != (IntKind.u16.wrap ((IntKind.u16.wrap (Int.tdiv a3 16)) * 16))) = false := bne_eq_false_iff_eq.mpr c61
                      clear c61
                      have H' := Aside0.mk H
                      clear H
                      have hnb62 := NB311_324.out
                      have hnc62 := NB324_311.out
                      have hnb63 := NB311_336.out
                      have hnc63 := NB336_311.out
                      have hcz64_0 : wr.cell? ⟨gb311, 0, none⟩ = some (.int .u8 a0_0) := (blk_cell BK311.out 0).trans rfl
                      have hcz64_1 : wr.cell? ⟨gb311, 1, none⟩ = some (.int .u8 a0_1) := (blk_cell BK311.out 1).trans rfl
                      have hcz64_2 : wr.cell? ⟨gb311, 2, none⟩ = some (.int .u8 a0_2) := (blk_cell BK311.out 2).trans rfl
                      have hcz64_3 : wr.cell? ⟨gb311, 3, none⟩ = some (.int .u8 a0_3) := (blk_cell BK311.out 3).trans rfl
                      have hcz64_4 : wr.cell? ⟨gb311, 4, none⟩ = some (.int .u8 a0_4) := (blk_cell BK311.out 4).trans rfl
                      have hcz64_5 : wr.cell? ⟨gb311, 5, none⟩ = some (.int .u8 a0_5) := (blk_cell BK311.out 5).trans rfl
                      have hcz64_6 : wr.cell? ⟨gb311, 6, none⟩ = some (.int .u8 a0_6) := (blk_cell BK311.out 6).trans rfl
                      have hcz64_7 : wr.cell? ⟨gb311, 7, none⟩ = some (.int .u8 a0_7) := (blk_cell BK311.out 7).trans rfl
                      have hcz64_8 : wr.cell? ⟨gb311, 8, none⟩ = some (.int .u16 a0_8) := (blk_cell BK311.out 8).trans rfl
                      have hcz64_9 : wr.cell? ⟨gb311, 9, none⟩ = some (.int .u16 a0_9) := (blk_cell BK311.out 9).trans rfl
                      have hfz64_0 := blk_frozen BK311.out 0
                      have hfz64_1 := blk_frozen BK311.out 1
                      have hfz64_2 := blk_frozen BK311.out 2
                      have hfz64_3 := blk_frozen BK311.out 3
                      have hfz64_4 := blk_frozen BK311.out 4
                      have hfz64_5 := blk_frozen BK311.out 5
                      have hfz64_6 := blk_frozen BK311.out 6
                      have hfz64_7 := blk_frozen BK311.out 7
                      have hfz64_8 := blk_frozen BK311.out 8
                      have hfz64_9 := blk_frozen BK311.out 9
                      go_wp2_with (first | ((with_reducible refine gate_callee (f := 15) rfl ?_); refine goesL_ (some 84) rfl rfl Try.func15 (by kernel_rfl) rfl #[.agg #[.int .u8 a0_0, .int .u8 a0_1, .int .u8 a0_2, .int .u8 a0_3, .int .u8 a0_4, .int .u8 a0_5, .int .u8 a0_6, .int .u8 a0_7, .int .u16 a0_8, .int .u16 a0_9], .int .i64 x21_2] rfl (by (try simp only [List.map_toArray, List.map_cons, List.map_nil]); first | done | rfl | (simp only [List.length_drop, List.length_take]; rfl)) ?_; (with_reducible refine (regs_Pair.calls a0_0 a0_1 a0_2 a0_3 a0_4 a0_5 a0_6 a0_7 a0_8 a0_9 x21_2 t341 t342 _ A57.out).mono ?_); rintro e w65 ⟨rfl, hb⟩; refine ⟨_, rfl, ?_⟩; have n0_ := Aside0.mk (blk_below (g := gb311) (o := .cells #[.int .u8 a0_0, .int .u8 a0_1, .int .u8 a0_2, .int .u8 a0_3, .int .u8 a0_4, .int .u8 a0_5, .int .u8 a0_6, .int .u8 a0_7, .int .u16 a0_8, .int .u16 a0_9] 24 (0, 0)) (by (with_reducible repeat (first | refine blk_drewN ?_ _ | refine blk_drew ?_ | refine blk_alloc ?_ _)); exact BK311.out) hb); have n1_ := Aside0.mk (blk_below (g := gb324) (o := .cells #[.int .u8 t313, .int .u8 t314, .int .u8 t315, .int .u8 t316, .int .u8 t317, .int .u8 t318, .int .u8 t319, .int .u8 t320, .int .u16 t321, .int .u16 t322] 24 (0, 0)) (by (with_reducible repeat (first | refine blk_drewN ?_ _ | refine blk_drew ?_ | refine blk_alloc ?_ _)); exact BK324.out) hb); have n2_ := Aside0.mk (blk_below (g := gb336) (o := .cells #[.int .u8 t325, .int .u8 t326, .int .u8 t327, .int .u8 t328, .int .u8 t329, .int .u8 t330, .int .u8 t331, .int .u8 t332, .int .u16 t333, .int .u16 t334] 24 (0, 0)) (by (with_reducible repeat (first | refine blk_drewN ?_ _ | refine blk_drew ?_ | refine blk_alloc ?_ _)); exact BK336.out) hb); have n3_ := Aside0.mk (below_step (by repeat (first | (with_reducible first | exact HB.out | apply below_alloc | apply pw_below_drewN | apply below_drew1 | refine below_set ?_ GE311.out | refine below_set ?_ GE324.out | refine below_set ?_ GE336.out) | exact HB.out)) hb); clear BK311; clear BK324; clear BK336; clear HB; have BK311 := n0_; have BK324 := n1_; have BK336 := n2_; have HB := n3_; clear n0_ n1_ n2_ n3_; (try clear hb); (try clear hb2); (try clear hk); (try clear hi); have hnb66 := NB336_324.out; have hnc66 := NB324_336.out; have hcz67_0 : w65.cell? ⟨gb336, 0, none⟩ = some (.int .u8 t325) := (blk_cell BK336.out 0).trans rfl; have hcz67_1 : w65.cell? ⟨gb336, 1, none⟩ = some (.int .u8 t326) := (blk_cell BK336.out 1).trans rfl; have hcz67_2 : w65.cell? ⟨gb336, 2, none⟩ = some (.int .u8 t327) := (blk_cell BK336.out 2).trans rfl; have hcz67_3 : w65.cell? ⟨gb336, 3, none⟩ = some (.int .u8 t328) := (blk_cell BK336.out 3).trans rfl; have hcz67_4 : w65.cell? ⟨gb336, 4, none⟩ = some (.int .u8 t329) := (blk_cell BK336.out 4).trans rfl; have hcz67_5 : w65.cell? ⟨gb336, 5, none⟩ = some (.int .u8 t330) := (blk_cell BK336.out 5).trans rfl; have hcz67_6 : w65.cell? ⟨gb336, 6, none⟩ = some (.int .u8 t331) := (blk_cell BK336.out 6).trans rfl; have hcz67_7 : w65.cell? ⟨gb336, 7, none⟩ = some (.int .u8 t332) := (blk_cell BK336.out 7).trans rfl; have hcz67_8 : w65.cell? ⟨gb336, 8, none⟩ = some (.int .u16 t333) := (blk_cell BK336.out 8).trans rfl; have hcz67_9 : w65.cell? ⟨gb336, 9, none⟩ = some (.int .u16 t334) := (blk_cell BK336.out 9).trans rfl; have hfz67_0 := blk_frozen BK336.out 0; have hfz67_1 := blk_frozen BK336.out 1; have hfz67_2 := blk_frozen BK336.out 2; have hfz67_3 := blk_frozen BK336.out 3; have hfz67_4 := blk_frozen BK336.out 4; have hfz67_5 := blk_frozen BK336.out 5; have hfz67_6 := blk_frozen BK336.out 6; have hfz67_7 := blk_frozen BK336.out 7; have hfz67_8 := blk_frozen BK336.out 8; have hfz67_9 := blk_frozen BK336.out 9) | ((with_reducible refine gate_callee (f := 15) rfl ?_); refine goesL_ (some 90) rfl rfl Try.func15 (by kernel_rfl) rfl #[.agg #[.int .u8 t325, .int .u8 t326, .int .u8 t327, .int .u8 t328, .int .u8 t329, .int .u8 t330, .int .u8 t331, .int .u8 t332, .int .u16 t333, .int .u16 t334], .int .i64 x21_2] rfl (by (try simp only [List.map_toArray, List.map_cons, List.map_nil]); first | done | rfl | (simp only [List.length_drop, List.length_take]; rfl)) ?_; (with_reducible refine (regs_Pair.calls t325 t326 t327 t328 t329 t330 t331 t332 t333 t334 x21_2 t343 t344 _ A58.out).mono ?_); rintro e w68 ⟨rfl, hb⟩; refine ⟨_, rfl, ?_⟩; have n0_ := Aside0.mk (blk_below (g := gb311) (o := .cells #[.int .u8 a0_0, .int .u8 a0_1, .int .u8 a0_2, .int .u8 a0_3, .int .u8 a0_4, .int .u8 a0_5, .int .u8 a0_6, .int .u8 a0_7, .int .u16 a0_8, .int .u16 a0_9] 24 (0, 0)) (by (with_reducible repeat (first | refine blk_drewN ?_ _ | refine blk_drew ?_ | refine blk_alloc ?_ _)); exact BK311.out) hb); have n1_ := Aside0.mk (blk_below (g := gb324) (o := .cells #[.int .u8 t313, .int .u8 t314, .int .u8 t315, .int .u8 t316, .int .u8 t317, .int .u8 t318, .int .u8 t319, .int .u8 t320, .int .u16 t321, .int .u16 t322] 24 (0, 0)) (by (with_reducible repeat (first | refine blk_drewN ?_ _ | refine blk_drew ?_ | refine blk_alloc ?_ _)); exact BK324.out) hb); have n2_ := Aside0.mk (blk_below (g := gb336) (o := .cells #[.int .u8 t325, .int .u8 t326, .int .u8 t327, .int .u8 t328, .int .u8 t329, .int .u8 t330, .int .u8 t331, .int .u8 t332, .int .u16 t333, .int .u16 t334] 24 (0, 0)) (by (with_reducible repeat (first | refine blk_drewN ?_ _ | refine blk_drew ?_ | refine blk_alloc ?_ _)); exact BK336.out) hb); have n3_ := Aside0.mk (below_step (by repeat (first | (with_reducible first | exact HB.out | apply below_alloc | apply pw_below_drewN | apply below_drew1 | refine below_set ?_ GE311.out | refine below_set ?_ GE324.out | refine below_set ?_ GE336.out) | exact HB.out)) hb); clear BK311; clear BK324; clear BK336; clear HB; have BK311 := n0_; have BK324 := n1_; have BK336 := n2_; have HB := n3_; clear n0_ n1_ n2_ n3_; (try clear hb); (try clear hb2); (try clear hk); (try clear hi)))
                      go_roundg k2
                      case measure => have := HK1.out; have := HK2.out; omega
                      case rel => exact ⟨(wrap64 (x21_2 + 1)), (by first | rfl | (simp; done) | (simp [*]; done)), H', ⟨by have := HK1.out; have := HK2.out; omega⟩, ⟨by (with_reducible repeat (first | refine blk_drewN ?_ _ | refine blk_drew ?_ | refine blk_alloc ?_ _)); exact BK311.out⟩, ⟨by (with_reducible repeat (first | refine blk_drewN ?_ _ | refine blk_drew ?_ | refine blk_alloc ?_ _)); exact BK324.out⟩, ⟨by (with_reducible repeat (first | refine blk_drewN ?_ _ | refine blk_drew ?_ | refine blk_alloc ?_ _)); exact BK336.out⟩, ⟨by repeat (first | (with_reducible first | exact HB.out | apply below_alloc | apply pw_below_drewN | apply below_drew1 | refine below_set ?_ GE311.out | refine below_set ?_ GE324.out | refine below_set ?_ GE336.out) | exact HB.out)⟩⟩
                    · rw [if_neg c61] at H
                      have c61b0 : (t343 == (IntKind.u16.wrap ((IntKind.u16.wrap (Int.tdiv a3 16)) * 16))) = false := beq_eq_false_iff_ne.mpr c61
                      have c61b1 : (t343 != (IntKind.u16.wrap ((IntKind.u16.wrap (Int.tdiv a3 16)) * 16))) = true := bne_iff_ne.mpr c61
                      exact absurd ((Option.some.inj H).trans HT.out) (by simp)
                  · rw [if_neg c60] at H
                    have c60b0 : (x21_2 == 4) = false := beq_eq_false_iff_ne.mpr c60
                    have c60b1 : (x21_2 != 4) = true := bne_iff_ne.mpr c60
                    by_cases c76 : t343 = a3
                    · rw [if_pos c76] at H
                      have c76b0 : (t343 == a3) = true := beq_iff_eq.mpr c76
                      have c76b1 : (t343 != a3) = false := bne_eq_false_iff_eq.mpr c76
                      clear c76
                      have H' := Aside0.mk H
                      clear H
                      have hnb77 := NB311_324.out
                      have hnc77 := NB324_311.out
                      have hnb78 := NB311_336.out
                      have hnc78 := NB336_311.out
                      have hcz79_0 : wr.cell? ⟨gb311, 0, none⟩ = some (.int .u8 a0_0) := (blk_cell BK311.out 0).trans rfl
                      have hcz79_1 : wr.cell? ⟨gb311, 1, none⟩ = some (.int .u8 a0_1) := (blk_cell BK311.out 1).trans rfl
                      have hcz79_2 : wr.cell? ⟨gb311, 2, none⟩ = some (.int .u8 a0_2) := (blk_cell BK311.out 2).trans rfl
                      have hcz79_3 : wr.cell? ⟨gb311, 3, none⟩ = some (.int .u8 a0_3) := (blk_cell BK311.out 3).trans rfl
                      have hcz79_4 : wr.cell? ⟨gb311, 4, none⟩ = some (.int .u8 a0_4) := (blk_cell BK311.out 4).trans rfl
                      have hcz79_5 : wr.cell? ⟨gb311, 5, none⟩ = some (.int .u8 a0_5) := (blk_cell BK311.out 5).trans rfl
                      have hcz79_6 : wr.cell? ⟨gb311, 6, none⟩ = some (.int .u8 a0_6) := (blk_cell BK311.out 6).trans rfl
                      have hcz79_7 : wr.cell? ⟨gb311, 7, none⟩ = some (.int .u8 a0_7) := (blk_cell BK311.out 7).trans rfl
                      have hcz79_8 : wr.cell? ⟨gb311, 8, none⟩ = some (.int .u16 a0_8) := (blk_cell BK311.out 8).trans rfl
                      have hcz79_9 : wr.cell? ⟨gb311, 9, none⟩ = some (.int .u16 a0_9) := (blk_cell BK311.out 9).trans rfl
                      have hfz79_0 := blk_frozen BK311.out 0
                      have hfz79_1 := blk_frozen BK311.out 1
                      have hfz79_2 := blk_frozen BK311.out 2
                      have hfz79_3 := blk_frozen BK311.out 3
                      have hfz79_4 := blk_frozen BK311.out 4
                      have hfz79_5 := blk_frozen BK311.out 5
                      have hfz79_6 := blk_frozen BK311.out 6
                      have hfz79_7 := blk_frozen BK311.out 7
                      have hfz79_8 := blk_frozen BK311.out 8
                      have hfz79_9 := blk_frozen BK311.out 9
                      go_wp2_with (first | ((with_reducible refine gate_callee (f := 15) rfl ?_); refine goesL_ (some 84) rfl rfl Try.func15 (by kernel_rfl) rfl #[.agg #[.int .u8 a0_0, .int .u8 a0_1, .int .u8 a0_2, .int .u8 a0_3, .int .u8 a0_4, .int .u8 a0_5, .int .u8 a0_6, .int .u8 a0_7, .int .u16 a0_8, .int .u16 a0_9], .int .i64 x21_2] rfl (by (try simp only [List.map_toArray, List.map_cons, List.map_nil]); first | done | rfl | (simp only [List.length_drop, List.length_take]; rfl)) ?_; (with_reducible refine (regs_Pair.calls a0_0 a0_1 a0_2 a0_3 a0_4 a0_5 a0_6 a0_7 a0_8 a0_9 x21_2 t341 t342 _ A57.out).mono ?_); rintro e w80 ⟨rfl, hb⟩; refine ⟨_, rfl, ?_⟩; have n0_ := Aside0.mk (blk_below (g := gb311) (o := .cells #[.int .u8 a0_0, .int .u8 a0_1, .int .u8 a0_2, .int .u8 a0_3, .int .u8 a0_4, .int .u8 a0_5, .int .u8 a0_6, .int .u8 a0_7, .int .u16 a0_8, .int .u16 a0_9] 24 (0, 0)) (by (with_reducible repeat (first | refine blk_drewN ?_ _ | refine blk_drew ?_ | refine blk_alloc ?_ _)); exact BK311.out) hb); have n1_ := Aside0.mk (blk_below (g := gb324) (o := .cells #[.int .u8 t313, .int .u8 t314, .int .u8 t315, .int .u8 t316, .int .u8 t317, .int .u8 t318, .int .u8 t319, .int .u8 t320, .int .u16 t321, .int .u16 t322] 24 (0, 0)) (by (with_reducible repeat (first | refine blk_drewN ?_ _ | refine blk_drew ?_ | refine blk_alloc ?_ _)); exact BK324.out) hb); have n2_ := Aside0.mk (blk_below (g := gb336) (o := .cells #[.int .u8 t325, .int .u8 t326, .int .u8 t327, .int .u8 t328, .int .u8 t329, .int .u8 t330, .int .u8 t331, .int .u8 t332, .int .u16 t333, .int .u16 t334] 24 (0, 0)) (by (with_reducible repeat (first | refine blk_drewN ?_ _ | refine blk_drew ?_ | refine blk_alloc ?_ _)); exact BK336.out) hb); have n3_ := Aside0.mk (below_step (by repeat (first | (with_reducible first | exact HB.out | apply below_alloc | apply pw_below_drewN | apply below_drew1 | refine below_set ?_ GE311.out | refine below_set ?_ GE324.out | refine below_set ?_ GE336.out) | exact HB.out)) hb); clear BK311; clear BK324; clear BK336; clear HB; have BK311 := n0_; have BK324 := n1_; have BK336 := n2_; have HB := n3_; clear n0_ n1_ n2_ n3_; (try clear hb); (try clear hb2); (try clear hk); (try clear hi); have hnb81 := NB336_324.out; have hnc81 := NB324_336.out; have hcz82_0 : w80.cell? ⟨gb336, 0, none⟩ = some (.int .u8 t325) := (blk_cell BK336.out 0).trans rfl; have hcz82_1 : w80.cell? ⟨gb336, 1, none⟩ = some (.int .u8 t326) := (blk_cell BK336.out 1).trans rfl; have hcz82_2 : w80.cell? ⟨gb336, 2, none⟩ = some (.int .u8 t327) := (blk_cell BK336.out 2).trans rfl; have hcz82_3 : w80.cell? ⟨gb336, 3, none⟩ = some (.int .u8 t328) := (blk_cell BK336.out 3).trans rfl; have hcz82_4 : w80.cell? ⟨gb336, 4, none⟩ = some (.int .u8 t329) := (blk_cell BK336.out 4).trans rfl; have hcz82_5 : w80.cell? ⟨gb336, 5, none⟩ = some (.int .u8 t330) := (blk_cell BK336.out 5).trans rfl; have hcz82_6 : w80.cell? ⟨gb336, 6, none⟩ = some (.int .u8 t331) := (blk_cell BK336.out 6).trans rfl; have hcz82_7 : w80.cell? ⟨gb336, 7, none⟩ = some (.int .u8 t332) := (blk_cell BK336.out 7).trans rfl; have hcz82_8 : w80.cell? ⟨gb336, 8, none⟩ = some (.int .u16 t333) := (blk_cell BK336.out 8).trans rfl; have hcz82_9 : w80.cell? ⟨gb336, 9, none⟩ = some (.int .u16 t334) := (blk_cell BK336.out 9).trans rfl; have hfz82_0 := blk_frozen BK336.out 0; have hfz82_1 := blk_frozen BK336.out 1; have hfz82_2 := blk_frozen BK336.out 2; have hfz82_3 := blk_frozen BK336.out 3; have hfz82_4 := blk_frozen BK336.out 4; have hfz82_5 := blk_frozen BK336.out 5; have hfz82_6 := blk_frozen BK336.out 6; have hfz82_7 := blk_frozen BK336.out 7; have hfz82_8 := blk_frozen BK336.out 8; have hfz82_9 := blk_frozen BK336.out 9) | ((with_reducible refine gate_callee (f := 15) rfl ?_); refine goesL_ (some 90) rfl rfl Try.func15 (by kernel_rfl) rfl #[.agg #[.int .u8 t325, .int .u8 t326, .int .u8 t327, .int .u8 t328, .int .u8 t329, .int .u8 t330, .int .u8 t331, .int .u8 t332, .int .u16 t333, .int .u16 t334], .int .i64 x21_2] rfl (by (try simp only [List.map_toArray, List.map_cons, List.map_nil]); first | done | rfl | (simp only [List.length_drop, List.length_take]; rfl)) ?_; (with_reducible refine (regs_Pair.calls t325 t326 t327 t328 t329 t330 t331 t332 t333 t334 x21_2 t343 t344 _ A58.out).mono ?_); rintro e w83 ⟨rfl, hb⟩; refine ⟨_, rfl, ?_⟩; have n0_ := Aside0.mk (blk_below (g := gb311) (o := .cells #[.int .u8 a0_0, .int .u8 a0_1, .int .u8 a0_2, .int .u8 a0_3, .int .u8 a0_4, .int .u8 a0_5, .int .u8 a0_6, .int .u8 a0_7, .int .u16 a0_8, .int .u16 a0_9] 24 (0, 0)) (by (with_reducible repeat (first | refine blk_drewN ?_ _ | refine blk_drew ?_ | refine blk_alloc ?_ _)); exact BK311.out) hb); have n1_ := Aside0.mk (blk_below (g := gb324) (o := .cells #[.int .u8 t313, .int .u8 t314, .int .u8 t315, .int .u8 t316, .int .u8 t317, .int .u8 t318, .int .u8 t319, .int .u8 t320, .int .u16 t321, .int .u16 t322] 24 (0, 0)) (by (with_reducible repeat (first | refine blk_drewN ?_ _ | refine blk_drew ?_ | refine blk_alloc ?_ _)); exact BK324.out) hb); have n2_ := Aside0.mk (blk_below (g := gb336) (o := .cells #[.int .u8 t325, .int .u8 t326, .int .u8 t327, .int .u8 t328, .int .u8 t329, .int .u8 t330, .int .u8 t331, .int .u8 t332, .int .u16 t333, .int .u16 t334] 24 (0, 0)) (by (with_reducible repeat (first | refine blk_drewN ?_ _ | refine blk_drew ?_ | refine blk_alloc ?_ _)); exact BK336.out) hb); have n3_ := Aside0.mk (below_step (by repeat (first | (with_reducible first | exact HB.out | apply below_alloc | apply pw_below_drewN | apply below_drew1 | refine below_set ?_ GE311.out | refine below_set ?_ GE324.out | refine below_set ?_ GE336.out) | exact HB.out)) hb); clear BK311; clear BK324; clear BK336; clear HB; have BK311 := n0_; have BK324 := n1_; have BK336 := n2_; have HB := n3_; clear n0_ n1_ n2_ n3_; (try clear hb); (try clear hb2); (try clear hk); (try clear hi)))
                      go_roundg k2
                      case measure => have := HK1.out; have := HK2.out; omega
                      case rel => exact ⟨(wrap64 (x21_2 + 1)), (by first | rfl | (simp; done) | (simp [*]; done)), H', ⟨by have := HK1.out; have := HK2.out; omega⟩, ⟨by (with_reducible repeat (first | refine blk_drewN ?_ _ | refine blk_drew ?_ | refine blk_alloc ?_ _)); exact BK311.out⟩, ⟨by (with_reducible repeat (first | refine blk_drewN ?_ _ | refine blk_drew ?_ | refine blk_alloc ?_ _)); exact BK324.out⟩, ⟨by (with_reducible repeat (first | refine blk_drewN ?_ _ | refine blk_drew ?_ | refine blk_alloc ?_ _)); exact BK336.out⟩, ⟨by repeat (first | (with_reducible first | exact HB.out | apply below_alloc | apply pw_below_drewN | apply below_drew1 | refine below_set ?_ GE311.out | refine below_set ?_ GE324.out | refine below_set ?_ GE336.out) | exact HB.out)⟩⟩
                    · rw [if_neg c76] at H
                      have c76b0 : (t343 == a3) = false := beq_eq_false_iff_ne.mpr c76
                      have c76b1 : (t343 != a3) = true := bne_iff_ne.mpr c76
                      exact absurd ((Option.some.inj H).trans HT.out) (by simp)
                · rw [if_neg c59] at H
                  have c59b0 : (x21_2 == (wrap64 (Int.tmod a1 5))) = false := beq_eq_false_iff_ne.mpr c59
                  have c59b1 : (x21_2 != (wrap64 (Int.tmod a1 5))) = true := bne_iff_ne.mpr c59
                  by_cases c91 : t341 = t343
                  · rw [if_pos c91] at H
                    have c91b0 : (t341 == t343) = true := beq_iff_eq.mpr c91
                    have c91b1 : (t341 != t343) = false := bne_eq_false_iff_eq.mpr c91
                    clear c91
                    have H' := Aside0.mk H
                    clear H
                    have hnb92 := NB311_324.out
                    have hnc92 := NB324_311.out
                    have hnb93 := NB311_336.out
                    have hnc93 := NB336_311.out
                    have hcz94_0 : wr.cell? ⟨gb311, 0, none⟩ = some (.int .u8 a0_0) := (blk_cell BK311.out 0).trans rfl
                    have hcz94_1 : wr.cell? ⟨gb311, 1, none⟩ = some (.int .u8 a0_1) := (blk_cell BK311.out 1).trans rfl
                    have hcz94_2 : wr.cell? ⟨gb311, 2, none⟩ = some (.int .u8 a0_2) := (blk_cell BK311.out 2).trans rfl
                    have hcz94_3 : wr.cell? ⟨gb311, 3, none⟩ = some (.int .u8 a0_3) := (blk_cell BK311.out 3).trans rfl
                    have hcz94_4 : wr.cell? ⟨gb311, 4, none⟩ = some (.int .u8 a0_4) := (blk_cell BK311.out 4).trans rfl
                    have hcz94_5 : wr.cell? ⟨gb311, 5, none⟩ = some (.int .u8 a0_5) := (blk_cell BK311.out 5).trans rfl
                    have hcz94_6 : wr.cell? ⟨gb311, 6, none⟩ = some (.int .u8 a0_6) := (blk_cell BK311.out 6).trans rfl
                    have hcz94_7 : wr.cell? ⟨gb311, 7, none⟩ = some (.int .u8 a0_7) := (blk_cell BK311.out 7).trans rfl
                    have hcz94_8 : wr.cell? ⟨gb311, 8, none⟩ = some (.int .u16 a0_8) := (blk_cell BK311.out 8).trans rfl
                    have hcz94_9 : wr.cell? ⟨gb311, 9, none⟩ = some (.int .u16 a0_9) := (blk_cell BK311.out 9).trans rfl
                    have hfz94_0 := blk_frozen BK311.out 0
                    have hfz94_1 := blk_frozen BK311.out 1
                    have hfz94_2 := blk_frozen BK311.out 2
                    have hfz94_3 := blk_frozen BK311.out 3
                    have hfz94_4 := blk_frozen BK311.out 4
                    have hfz94_5 := blk_frozen BK311.out 5
                    have hfz94_6 := blk_frozen BK311.out 6
                    have hfz94_7 := blk_frozen BK311.out 7
                    have hfz94_8 := blk_frozen BK311.out 8
                    have hfz94_9 := blk_frozen BK311.out 9
                    go_wp2_with (first | ((with_reducible refine gate_callee (f := 15) rfl ?_); refine goesL_ (some 84) rfl rfl Try.func15 (by kernel_rfl) rfl #[.agg #[.int .u8 a0_0, .int .u8 a0_1, .int .u8 a0_2, .int .u8 a0_3, .int .u8 a0_4, .int .u8 a0_5, .int .u8 a0_6, .int .u8 a0_7, .int .u16 a0_8, .int .u16 a0_9], .int .i64 x21_2] rfl (by (try simp only [List.map_toArray, List.map_cons, List.map_nil]); first | done | rfl | (simp only [List.length_drop, List.length_take]; rfl)) ?_; (with_reducible refine (regs_Pair.calls a0_0 a0_1 a0_2 a0_3 a0_4 a0_5 a0_6 a0_7 a0_8 a0_9 x21_2 t341 t342 _ A57.out).mono ?_); rintro e w95 ⟨rfl, hb⟩; refine ⟨_, rfl, ?_⟩; have n0_ := Aside0.mk (blk_below (g := gb311) (o := .cells #[.int .u8 a0_0, .int .u8 a0_1, .int .u8 a0_2, .int .u8 a0_3, .int .u8 a0_4, .int .u8 a0_5, .int .u8 a0_6, .int .u8 a0_7, .int .u16 a0_8, .int .u16 a0_9] 24 (0, 0)) (by (with_reducible repeat (first | refine blk_drewN ?_ _ | refine blk_drew ?_ | refine blk_alloc ?_ _)); exact BK311.out) hb); have n1_ := Aside0.mk (blk_below (g := gb324) (o := .cells #[.int .u8 t313, .int .u8 t314, .int .u8 t315, .int .u8 t316, .int .u8 t317, .int .u8 t318, .int .u8 t319, .int .u8 t320, .int .u16 t321, .int .u16 t322] 24 (0, 0)) (by (with_reducible repeat (first | refine blk_drewN ?_ _ | refine blk_drew ?_ | refine blk_alloc ?_ _)); exact BK324.out) hb); have n2_ := Aside0.mk (blk_below (g := gb336) (o := .cells #[.int .u8 t325, .int .u8 t326, .int .u8 t327, .int .u8 t328, .int .u8 t329, .int .u8 t330, .int .u8 t331, .int .u8 t332, .int .u16 t333, .int .u16 t334] 24 (0, 0)) (by (with_reducible repeat (first | refine blk_drewN ?_ _ | refine blk_drew ?_ | refine blk_alloc ?_ _)); exact BK336.out) hb); have n3_ := Aside0.mk (below_step (by repeat (first | (with_reducible first | exact HB.out | apply below_alloc | apply pw_below_drewN | apply below_drew1 | refine below_set ?_ GE311.out | refine below_set ?_ GE324.out | refine below_set ?_ GE336.out) | exact HB.out)) hb); clear BK311; clear BK324; clear BK336; clear HB; have BK311 := n0_; have BK324 := n1_; have BK336 := n2_; have HB := n3_; clear n0_ n1_ n2_ n3_; (try clear hb); (try clear hb2); (try clear hk); (try clear hi); have hnb96 := NB336_324.out; have hnc96 := NB324_336.out; have hcz97_0 : w95.cell? ⟨gb336, 0, none⟩ = some (.int .u8 t325) := (blk_cell BK336.out 0).trans rfl; have hcz97_1 : w95.cell? ⟨gb336, 1, none⟩ = some (.int .u8 t326) := (blk_cell BK336.out 1).trans rfl; have hcz97_2 : w95.cell? ⟨gb336, 2, none⟩ = some (.int .u8 t327) := (blk_cell BK336.out 2).trans rfl; have hcz97_3 : w95.cell? ⟨gb336, 3, none⟩ = some (.int .u8 t328) := (blk_cell BK336.out 3).trans rfl; have hcz97_4 : w95.cell? ⟨gb336, 4, none⟩ = some (.int .u8 t329) := (blk_cell BK336.out 4).trans rfl; have hcz97_5 : w95.cell? ⟨gb336, 5, none⟩ = some (.int .u8 t330) := (blk_cell BK336.out 5).trans rfl; have hcz97_6 : w95.cell? ⟨gb336, 6, none⟩ = some (.int .u8 t331) := (blk_cell BK336.out 6).trans rfl; have hcz97_7 : w95.cell? ⟨gb336, 7, none⟩ = some (.int .u8 t332) := (blk_cell BK336.out 7).trans rfl; have hcz97_8 : w95.cell? ⟨gb336, 8, none⟩ = some (.int .u16 t333) := (blk_cell BK336.out 8).trans rfl; have hcz97_9 : w95.cell? ⟨gb336, 9, none⟩ = some (.int .u16 t334) := (blk_cell BK336.out 9).trans rfl; have hfz97_0 := blk_frozen BK336.out 0; have hfz97_1 := blk_frozen BK336.out 1; have hfz97_2 := blk_frozen BK336.out 2; have hfz97_3 := blk_frozen BK336.out 3; have hfz97_4 := blk_frozen BK336.out 4; have hfz97_5 := blk_frozen BK336.out 5; have hfz97_6 := blk_frozen BK336.out 6; have hfz97_7 := blk_frozen BK336.out 7; have hfz97_8 := blk_frozen BK336.out 8; have hfz97_9 := blk_frozen BK336.out 9) | ((with_reducible refine gate_callee (f := 15) rfl ?_); refine goesL_ (some 90) rfl rfl Try.func15 (by kernel_rfl) rfl #[.agg #[.int .u8 t325, .int .u8 t326, .int .u8 t327, .int .u8 t328, .int .u8 t329, .int .u8 t330, .int .u8 t331, .int .u8 t332, .int .u16 t333, .int .u16 t334], .int .i64 x21_2] rfl (by (try simp only [List.map_toArray, List.map_cons, List.map_nil]); first | done | rfl | (simp only [List.length_drop, List.length_take]; rfl)) ?_; (with_reducible refine (regs_Pair.calls t325 t326 t327 t328 t329 t330 t331 t332 t333 t334 x21_2 t343 t344 _ A58.out).mono ?_); rintro e w98 ⟨rfl, hb⟩; refine ⟨_, rfl, ?_⟩; have n0_ := Aside0.mk (blk_below (g := gb311) (o := .cells #[.int .u8 a0_0, .int .u8 a0_1, .int .u8 a0_2, .int .u8 a0_3, .int .u8 a0_4, .int .u8 a0_5, .int .u8 a0_6, .int .u8 a0_7, .int .u16 a0_8, .int .u16 a0_9] 24 (0, 0)) (by (with_reducible repeat (first | refine blk_drewN ?_ _ | refine blk_drew ?_ | refine blk_alloc ?_ _)); exact BK311.out) hb); have n1_ := Aside0.mk (blk_below (g := gb324) (o := .cells #[.int .u8 t313, .int .u8 t314, .int .u8 t315, .int .u8 t316, .int .u8 t317, .int .u8 t318, .int .u8 t319, .int .u8 t320, .int .u16 t321, .int .u16 t322] 24 (0, 0)) (by (with_reducible repeat (first | refine blk_drewN ?_ _ | refine blk_drew ?_ | refine blk_alloc ?_ _)); exact BK324.out) hb); have n2_ := Aside0.mk (blk_below (g := gb336) (o := .cells #[.int .u8 t325, .int .u8 t326, .int .u8 t327, .int .u8 t328, .int .u8 t329, .int .u8 t330, .int .u8 t331, .int .u8 t332, .int .u16 t333, .int .u16 t334] 24 (0, 0)) (by (with_reducible repeat (first | refine blk_drewN ?_ _ | refine blk_drew ?_ | refine blk_alloc ?_ _)); exact BK336.out) hb); have n3_ := Aside0.mk (below_step (by repeat (first | (with_reducible first | exact HB.out | apply below_alloc | apply pw_below_drewN | apply below_drew1 | refine below_set ?_ GE311.out | refine below_set ?_ GE324.out | refine below_set ?_ GE336.out) | exact HB.out)) hb); clear BK311; clear BK324; clear BK336; clear HB; have BK311 := n0_; have BK324 := n1_; have BK336 := n2_; have HB := n3_; clear n0_ n1_ n2_ n3_; (try clear hb); (try clear hb2); (try clear hk); (try clear hi)))
                    go_roundg k2
                    case measure => have := HK1.out; have := HK2.out; omega
                    case rel => exact ⟨(wrap64 (x21_2 + 1)), (by first | rfl | (simp; done) | (simp [*]; done)), H', ⟨by have := HK1.out; have := HK2.out; omega⟩, ⟨by (with_reducible repeat (first | refine blk_drewN ?_ _ | refine blk_drew ?_ | refine blk_alloc ?_ _)); exact BK311.out⟩, ⟨by (with_reducible repeat (first | refine blk_drewN ?_ _ | refine blk_drew ?_ | refine blk_alloc ?_ _)); exact BK324.out⟩, ⟨by (with_reducible repeat (first | refine blk_drewN ?_ _ | refine blk_drew ?_ | refine blk_alloc ?_ _)); exact BK336.out⟩, ⟨by repeat (first | (with_reducible first | exact HB.out | apply below_alloc | apply pw_below_drewN | apply below_drew1 | refine below_set ?_ GE311.out | refine below_set ?_ GE324.out | refine below_set ?_ GE336.out) | exact HB.out)⟩⟩
                  · rw [if_neg c91] at H
                    have c91b0 : (t341 == t343) = false := beq_eq_false_iff_ne.mpr c91
                    have c91b1 : (t341 != t343) = true := bne_iff_ne.mpr c91
                    exact absurd ((Option.some.inj H).trans HT.out) (by simp)
              · rw [if_neg c56] at H
                have c56b0 : decide (x21_2 < 5) = false := decide_eq_false c56
                clear c56
                by_cases c106 : t312 = true
                · subst c106
                  have H1 : (if t334 = a0_9 then (if t323 = 0 then (if t314 = a0_1 then (if t321 = a0_8 then (some (t322 == a0_9)) else (some false)) else (some false)) else (some true)) else (some false)) = some r := by rw [if_pos rfl] at H; exact H
                  clear H
                  have H := H1
                  clear H1
                  by_cases c107 : t334 = a0_9
                  · rw [if_pos c107] at H
                    have c107b0 : (t334 == a0_9) = true := beq_iff_eq.mpr c107
                    have c107b1 : (t334 != a0_9) = false := bne_eq_false_iff_eq.mpr c107
                    clear c107
                    by_cases c108 : t323 = 0
                    · rw [if_pos c108] at H
                      have c108b0 : (t323 == 0) = true := beq_iff_eq.mpr c108
                      have c108b1 : (t323 != 0) = false := bne_eq_false_iff_eq.mpr c108
                      clear c108
                      by_cases c109 : t314 = a0_1
                      · rw [if_pos c109] at H
                        have c109b0 : (t314 == a0_1) = true := beq_iff_eq.mpr c109
                        have c109b1 : (t314 != a0_1) = false := bne_eq_false_iff_eq.mpr c109
                        clear c109
                        by_cases c110 : t321 = a0_8
                        · rw [if_pos c110] at H
                          have c110b0 : (t321 == a0_8) = true := beq_iff_eq.mpr c110
                          have c110b1 : (t321 != a0_8) = false := bne_eq_false_iff_eq.mpr c110
                          clear c110
                          obtain rfl := Option.some.inj H
                          have hnb111 := NB336_311.out
                          have hnc111 := NB311_336.out
                          have hnb112 := NB336_324.out
                          have hnc112 := NB324_336.out
                          have hcz113_0 : wr.cell? ⟨gb336, 0, none⟩ = some (.int .u8 t325) := (blk_cell BK336.out 0).trans rfl
                          have hcz113_1 : wr.cell? ⟨gb336, 1, none⟩ = some (.int .u8 t326) := (blk_cell BK336.out 1).trans rfl
                          have hcz113_2 : wr.cell? ⟨gb336, 2, none⟩ = some (.int .u8 t327) := (blk_cell BK336.out 2).trans rfl
                          have hcz113_3 : wr.cell? ⟨gb336, 3, none⟩ = some (.int .u8 t328) := (blk_cell BK336.out 3).trans rfl
                          have hcz113_4 : wr.cell? ⟨gb336, 4, none⟩ = some (.int .u8 t329) := (blk_cell BK336.out 4).trans rfl
                          have hcz113_5 : wr.cell? ⟨gb336, 5, none⟩ = some (.int .u8 t330) := (blk_cell BK336.out 5).trans rfl
                          have hcz113_6 : wr.cell? ⟨gb336, 6, none⟩ = some (.int .u8 t331) := (blk_cell BK336.out 6).trans rfl
                          have hcz113_7 : wr.cell? ⟨gb336, 7, none⟩ = some (.int .u8 t332) := (blk_cell BK336.out 7).trans rfl
                          have hcz113_8 : wr.cell? ⟨gb336, 8, none⟩ = some (.int .u16 t333) := (blk_cell BK336.out 8).trans rfl
                          have hcz113_9 : wr.cell? ⟨gb336, 9, none⟩ = some (.int .u16 t334) := (blk_cell BK336.out 9).trans rfl
                          have hfz113_0 := blk_frozen BK336.out 0
                          have hfz113_1 := blk_frozen BK336.out 1
                          have hfz113_2 := blk_frozen BK336.out 2
                          have hfz113_3 := blk_frozen BK336.out 3
                          have hfz113_4 := blk_frozen BK336.out 4
                          have hfz113_5 := blk_frozen BK336.out 5
                          have hfz113_6 := blk_frozen BK336.out 6
                          have hfz113_7 := blk_frozen BK336.out 7
                          have hfz113_8 := blk_frozen BK336.out 8
                          have hfz113_9 := blk_frozen BK336.out 9
                          have hnb114 := NB311_324.out
                          have hnc114 := NB324_311.out
                          have hcz115_0 : wr.cell? ⟨gb311, 0, none⟩ = some (.int .u8 a0_0) := (blk_cell BK311.out 0).trans rfl
                          have hcz115_1 : wr.cell? ⟨gb311, 1, none⟩ = some (.int .u8 a0_1) := (blk_cell BK311.out 1).trans rfl
                          have hcz115_2 : wr.cell? ⟨gb311, 2, none⟩ = some (.int .u8 a0_2) := (blk_cell BK311.out 2).trans rfl
                          have hcz115_3 : wr.cell? ⟨gb311, 3, none⟩ = some (.int .u8 a0_3) := (blk_cell BK311.out 3).trans rfl
                          have hcz115_4 : wr.cell? ⟨gb311, 4, none⟩ = some (.int .u8 a0_4) := (blk_cell BK311.out 4).trans rfl
                          have hcz115_5 : wr.cell? ⟨gb311, 5, none⟩ = some (.int .u8 a0_5) := (blk_cell BK311.out 5).trans rfl
                          have hcz115_6 : wr.cell? ⟨gb311, 6, none⟩ = some (.int .u8 a0_6) := (blk_cell BK311.out 6).trans rfl
                          have hcz115_7 : wr.cell? ⟨gb311, 7, none⟩ = some (.int .u8 a0_7) := (blk_cell BK311.out 7).trans rfl
                          have hcz115_8 : wr.cell? ⟨gb311, 8, none⟩ = some (.int .u16 a0_8) := (blk_cell BK311.out 8).trans rfl
                          have hcz115_9 : wr.cell? ⟨gb311, 9, none⟩ = some (.int .u16 a0_9) := (blk_cell BK311.out 9).trans rfl
                          have hfz115_0 := blk_frozen BK311.out 0
                          have hfz115_1 := blk_frozen BK311.out 1
                          have hfz115_2 := blk_frozen BK311.out 2
                          have hfz115_3 := blk_frozen BK311.out 3
                          have hfz115_4 := blk_frozen BK311.out 4
                          have hfz115_5 := blk_frozen BK311.out 5
                          have hfz115_6 := blk_frozen BK311.out 6
                          have hfz115_7 := blk_frozen BK311.out 7
                          have hfz115_8 := blk_frozen BK311.out 8
                          have hfz115_9 := blk_frozen BK311.out 9
                          have hcz116_0 : wr.cell? ⟨gb324, 0, none⟩ = some (.int .u8 t313) := (blk_cell BK324.out 0).trans rfl
                          have hcz116_1 : wr.cell? ⟨gb324, 1, none⟩ = some (.int .u8 t314) := (blk_cell BK324.out 1).trans rfl
                          have hcz116_2 : wr.cell? ⟨gb324, 2, none⟩ = some (.int .u8 t315) := (blk_cell BK324.out 2).trans rfl
                          have hcz116_3 : wr.cell? ⟨gb324, 3, none⟩ = some (.int .u8 t316) := (blk_cell BK324.out 3).trans rfl
                          have hcz116_4 : wr.cell? ⟨gb324, 4, none⟩ = some (.int .u8 t317) := (blk_cell BK324.out 4).trans rfl
                          have hcz116_5 : wr.cell? ⟨gb324, 5, none⟩ = some (.int .u8 t318) := (blk_cell BK324.out 5).trans rfl
                          have hcz116_6 : wr.cell? ⟨gb324, 6, none⟩ = some (.int .u8 t319) := (blk_cell BK324.out 6).trans rfl
                          have hcz116_7 : wr.cell? ⟨gb324, 7, none⟩ = some (.int .u8 t320) := (blk_cell BK324.out 7).trans rfl
                          have hcz116_8 : wr.cell? ⟨gb324, 8, none⟩ = some (.int .u16 t321) := (blk_cell BK324.out 8).trans rfl
                          have hcz116_9 : wr.cell? ⟨gb324, 9, none⟩ = some (.int .u16 t322) := (blk_cell BK324.out 9).trans rfl
                          have hfz116_0 := blk_frozen BK324.out 0
                          have hfz116_1 := blk_frozen BK324.out 1
                          have hfz116_2 := blk_frozen BK324.out 2
                          have hfz116_3 := blk_frozen BK324.out 3
                          have hfz116_4 := blk_frozen BK324.out 4
                          have hfz116_5 := blk_frozen BK324.out 5
                          have hfz116_6 := blk_frozen BK324.out 6
                          have hfz116_7 := blk_frozen BK324.out 7
                          have hfz116_8 := blk_frozen BK324.out 8
                          have hfz116_9 := blk_frozen BK324.out 9
                          go_wp2
                          go_ret
                          exact ⟨by first | rfl | (simp [errW_none, errW_some] <;> rfl) | (simp [*, errW_none, errW_some] <;> rfl), by repeat (first | (with_reducible first | exact HB.out | apply below_alloc | apply pw_below_drewN | apply below_drew1 | refine below_set ?_ GE311.out | refine below_set ?_ GE324.out | refine below_set ?_ GE336.out) | exact HB.out)⟩
                        · rw [if_neg c110] at H
                          have c110b0 : (t321 == a0_8) = false := beq_eq_false_iff_ne.mpr c110
                          have c110b1 : (t321 != a0_8) = true := bne_iff_ne.mpr c110
                          exact absurd ((Option.some.inj H).trans HT.out) (by simp)
                      · rw [if_neg c109] at H
                        have c109b0 : (t314 == a0_1) = false := beq_eq_false_iff_ne.mpr c109
                        have c109b1 : (t314 != a0_1) = true := bne_iff_ne.mpr c109
                        exact absurd ((Option.some.inj H).trans HT.out) (by simp)
                    · rw [if_neg c108] at H
                      have c108b0 : (t323 == 0) = false := beq_eq_false_iff_ne.mpr c108
                      have c108b1 : (t323 != 0) = true := bne_iff_ne.mpr c108
                      obtain rfl := Option.some.inj H
                      have hnb129 := NB336_311.out
                      have hnc129 := NB311_336.out
                      have hnb130 := NB336_324.out
                      have hnc130 := NB324_336.out
                      have hcz131_0 : wr.cell? ⟨gb336, 0, none⟩ = some (.int .u8 t325) := (blk_cell BK336.out 0).trans rfl
                      have hcz131_1 : wr.cell? ⟨gb336, 1, none⟩ = some (.int .u8 t326) := (blk_cell BK336.out 1).trans rfl
                      have hcz131_2 : wr.cell? ⟨gb336, 2, none⟩ = some (.int .u8 t327) := (blk_cell BK336.out 2).trans rfl
                      have hcz131_3 : wr.cell? ⟨gb336, 3, none⟩ = some (.int .u8 t328) := (blk_cell BK336.out 3).trans rfl
                      have hcz131_4 : wr.cell? ⟨gb336, 4, none⟩ = some (.int .u8 t329) := (blk_cell BK336.out 4).trans rfl
                      have hcz131_5 : wr.cell? ⟨gb336, 5, none⟩ = some (.int .u8 t330) := (blk_cell BK336.out 5).trans rfl
                      have hcz131_6 : wr.cell? ⟨gb336, 6, none⟩ = some (.int .u8 t331) := (blk_cell BK336.out 6).trans rfl
                      have hcz131_7 : wr.cell? ⟨gb336, 7, none⟩ = some (.int .u8 t332) := (blk_cell BK336.out 7).trans rfl
                      have hcz131_8 : wr.cell? ⟨gb336, 8, none⟩ = some (.int .u16 t333) := (blk_cell BK336.out 8).trans rfl
                      have hcz131_9 : wr.cell? ⟨gb336, 9, none⟩ = some (.int .u16 t334) := (blk_cell BK336.out 9).trans rfl
                      have hfz131_0 := blk_frozen BK336.out 0
                      have hfz131_1 := blk_frozen BK336.out 1
                      have hfz131_2 := blk_frozen BK336.out 2
                      have hfz131_3 := blk_frozen BK336.out 3
                      have hfz131_4 := blk_frozen BK336.out 4
                      have hfz131_5 := blk_frozen BK336.out 5
                      have hfz131_6 := blk_frozen BK336.out 6
                      have hfz131_7 := blk_frozen BK336.out 7
                      have hfz131_8 := blk_frozen BK336.out 8
                      have hfz131_9 := blk_frozen BK336.out 9
                      have hnb132 := NB311_324.out
                      have hnc132 := NB324_311.out
                      have hcz133_0 : wr.cell? ⟨gb311, 0, none⟩ = some (.int .u8 a0_0) := (blk_cell BK311.out 0).trans rfl
                      have hcz133_1 : wr.cell? ⟨gb311, 1, none⟩ = some (.int .u8 a0_1) := (blk_cell BK311.out 1).trans rfl
                      have hcz133_2 : wr.cell? ⟨gb311, 2, none⟩ = some (.int .u8 a0_2) := (blk_cell BK311.out 2).trans rfl
                      have hcz133_3 : wr.cell? ⟨gb311, 3, none⟩ = some (.int .u8 a0_3) := (blk_cell BK311.out 3).trans rfl
                      have hcz133_4 : wr.cell? ⟨gb311, 4, none⟩ = some (.int .u8 a0_4) := (blk_cell BK311.out 4).trans rfl
                      have hcz133_5 : wr.cell? ⟨gb311, 5, none⟩ = some (.int .u8 a0_5) := (blk_cell BK311.out 5).trans rfl
                      have hcz133_6 : wr.cell? ⟨gb311, 6, none⟩ = some (.int .u8 a0_6) := (blk_cell BK311.out 6).trans rfl
                      have hcz133_7 : wr.cell? ⟨gb311, 7, none⟩ = some (.int .u8 a0_7) := (blk_cell BK311.out 7).trans rfl
                      have hcz133_8 : wr.cell? ⟨gb311, 8, none⟩ = some (.int .u16 a0_8) := (blk_cell BK311.out 8).trans rfl
                      have hcz133_9 : wr.cell? ⟨gb311, 9, none⟩ = some (.int .u16 a0_9) := (blk_cell BK311.out 9).trans rfl
                      have hfz133_0 := blk_frozen BK311.out 0
                      have hfz133_1 := blk_frozen BK311.out 1
                      have hfz133_2 := blk_frozen BK311.out 2
                      have hfz133_3 := blk_frozen BK311.out 3
                      have hfz133_4 := blk_frozen BK311.out 4
                      have hfz133_5 := blk_frozen BK311.out 5
                      have hfz133_6 := blk_frozen BK311.out 6
                      have hfz133_7 := blk_frozen BK311.out 7
                      have hfz133_8 := blk_frozen BK311.out 8
                      have hfz133_9 := blk_frozen BK311.out 9
                      go_wp2
                      go_ret
                      exact ⟨by first | rfl | (simp [errW_none, errW_some] <;> rfl) | (simp [*, errW_none, errW_some] <;> rfl), by repeat (first | (with_reducible first | exact HB.out | apply below_alloc | apply pw_below_drewN | apply below_drew1 | refine below_set ?_ GE311.out | refine below_set ?_ GE324.out | refine below_set ?_ GE336.out) | exact HB.out)⟩
                  · rw [if_neg c107] at H
                    have c107b0 : (t334 == a0_9) = false := beq_eq_false_iff_ne.mpr c107
                    have c107b1 : (t334 != a0_9) = true := bne_iff_ne.mpr c107
                    exact absurd ((Option.some.inj H).trans HT.out) (by simp)
                · replace c106 := Bool.eq_false_iff.mpr c106
                  subst c106
                  have H1 : (some false) = some r := by rw [if_neg (show ¬ (false = true) by decide)] at H; exact H
                  clear H
                  have H := H1
                  clear H1
                  exact absurd ((Option.some.inj H).trans HT.out) (by simp)
  · rw [if_neg c8] at H
    have c8b0 : (t335 == 0) = false := beq_eq_false_iff_ne.mpr c8
    have c8b1 : (t335 != 0) = true := bne_iff_ne.mpr c8
    exact absurd ((Option.some.inj H).trans HT.out) (by simp)

end Go.Proofs.Ythkoofidnaghcaa.G
