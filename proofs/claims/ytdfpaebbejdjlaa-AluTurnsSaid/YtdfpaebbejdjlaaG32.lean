/- Written by a program of this session, after the kit's print: Go functions as Lean functions, each with the proof that the Go text comes to it. -/
import Derived.Test.YtdfpaebbejdjlaaG0
import Derived.Test.YtdfpaebbejdjlaaG1
import Derived.Test.YtdfpaebbejdjlaaG6
import Derived.Test.YtdfpaebbejdjlaaG27
import Derived.Test.YtdfpaebbejdjlaaG28
import Derived.Test.YtdfpaebbejdjlaaG29
import Derived.Test.YtdfpaebbejdjlaaG30
import Derived.Test.YtdfpaebbejdjlaaG31
import Derived.Test.YtdfpaebbejdjlaaHAlu
namespace Go.Proofs.Ytdfpaebbejdjlaa.G
open Go.RowKit Go.Proofs.YtdfpaebbejdjlaaW.PrintWords Go.Proofs.YtdfpaebbejdjlaaW.PrintLast Go.Proofs.YtdfpaebbejdjlaaW.PrintMore
attribute [local go_sem] max2_int min2_int max_two min_two max_three min_three max_four min_four   -- for this text's walks alone
set_option linter.unusedVariables false
set_option linter.unusedSimpArgs false

open Go.Proofs.Ytdfpaebbejdjlaa.Hand
attribute [local go_sem high] eqA23
/-! ### whirligiglaw02_AluTurns: function 8 -/
def whirligiglaw02_AluTurns.f (k : Nat) (a0 : Int) (a1_0 : Bool) (a1_1 : Bool) (a1_2 : Bool) (a1_3 : Bool) : Option (Bool) := (whirligiglaw02_shown.f k).bind fun t324 => ((alu_Cpl.f a0 a1_0 a1_1 a1_2 a1_3).bind fun bt325 => ((whirligigref02_Cpl.f a0 a1_0 a1_1 a1_2 a1_3).bind fun bt331 => (if t324 = true then (if bt325.1 = bt331.1 then (if (bt325.2.1 == bt331.2.1 && (bt325.2.2.1 == bt331.2.2.1 && (bt325.2.2.2.1 == bt331.2.2.2.1 && (bt325.2.2.2.2 == bt331.2.2.2.2)))) = true then ((alu_Scf.f a1_0 a1_1 a1_2 a1_3).bind fun bt337 => ((whirligigref02_Scf.f a1_0 a1_1 a1_2 a1_3).bind fun bt341 => (if (bt337.1 == bt341.1 && (bt337.2.1 == bt341.2.1 && (bt337.2.2.1 == bt341.2.2.1 && (bt337.2.2.2 == bt341.2.2.2)))) = true then ((alu_Ccf.f a1_0 a1_1 a1_2 a1_3).bind fun bt345 => ((whirligigref02_Ccf.f a1_0 a1_1 a1_2 a1_3).bind fun bt349 => (some (bt345.1 == bt349.1 && (bt345.2.1 == bt349.2.1 && (bt345.2.2.1 == bt349.2.2.1 && (bt345.2.2.2 == bt349.2.2.2))))))) else (some false)))) else (some false)) else (some false)) else (some false))))
theorem whirligiglaw02_AluTurns.mono : ∀ a0 a1 a2 a3 a4 k, LeO (whirligiglaw02_AluTurns.f k a0 a1 a2 a3 a4) (whirligiglaw02_AluTurns.f (k + 1) a0 a1 a2 a3 a4) := by
  intro a0 a1 a2 a3 a4 k
  unfold whirligiglaw02_AluTurns.f
  repeat' first
      | (with_reducible exact whirligiglaw02_shown.mono _)
      | (with_reducible exact LeO.refl _)
      | (with_reducible exact LeO.none _)
      | (with_reducible refine LeO.ite ?_ ?_)
      | (with_reducible refine LeO.bind ?_ (fun _ => ?_))
      | exact whirligiglaw02_shown.mono _
      | exact LeO.none _
      | refine LeO.ite ?_ ?_
      | refine LeO.bind ?_ (fun _ => ?_)
def whirligiglaw02_AluTurns.T4 : Bool × List (List Nat × List Nat) := (true, [([], []), ([0], [0]), ([1], [1]), ([1], [1]), ([2, 3, 1], [1, 2, 3]), ([1, 4], [1, 4]), ([5, 1], [5]), ([6], [6]), ([6], [6]), ([7, 8, 6], [6, 7, 8]), ([6, 9], [6, 9]), ([10, 6], [10]), ([11], [11]), ([12, 11, 11], [11, 12]), ([11], [11]), ([14, 13, 11], [11, 14]), ([13, 15, 11], [11, 13, 15]), ([11, 16], [11, 16]), ([17, 15], [17]), ([18], [18]), ([19, 18, 18], [18, 19]), ([18], [18]), ([21, 20, 18], [18, 21]), ([20, 22, 18], [18, 20, 22]), ([18, 23], [18, 23]), ([24, 22, 0, 1, 2, 3, 4, 5, 6, 7, 8, 9, 10, 11, 12, 13, 14, 15, 16, 17, 18, 19, 20, 21, 22, 23, 24], [24])])
def whirligiglaw02_AluTurns.B4 : List Nat := [0, 1, 3, 3, 15, 31, 63, 127, 127, 511, 1023, 2047, 4095, 8191, 4095, 32767, 65535, 131071, 262143, 524287, 1048575, 524287, 4194303, 8388607, 16777215, 33554431]
theorem whirligiglaw02_AluTurns.tab4 : rtab .any (opsOf Try.f8 4) = whirligiglaw02_AluTurns.T4 := by kernel_rfl
theorem whirligiglaw02_AluTurns.bits4 : waitsOk whirligiglaw02_AluTurns.T4.2 whirligiglaw02_AluTurns.B4 = true := by kernel_rfl
set_option maxHeartbeats 8000000 in
set_option maxRecDepth 100000 in
theorem whirligiglaw02_AluTurns.calls (k : Nat) (a0 : Int) (a1_0 : Bool) (a1_1 : Bool) (a1_2 : Bool) (a1_3 : Bool) (r : Bool) (w : World) (h : whirligiglaw02_AluTurns.f k a0 a1_0 a1_1 a1_2 a1_3 = some r) (ht : r = true) :
    Calls Try.prog 8 #[.int .u8 a0, .agg #[.bool a1_0, .bool a1_1, .bool a1_2, .bool a1_3]] w fun e w' => e = .returned (.bool r) ∧ Below w.heap.size w w' := by
  have HT := Aside0.mk ht
  clear ht
  have hu23 := Try.underlying23
  have HB := Aside0.mk (Below.refl w.heap.size w)
  have H : ((whirligiglaw02_shown.f k).bind fun t324 => ((alu_Cpl.f a0 a1_0 a1_1 a1_2 a1_3).bind fun bt325 => ((whirligigref02_Cpl.f a0 a1_0 a1_1 a1_2 a1_3).bind fun bt331 => (if t324 = true then (if bt325.1 = bt331.1 then (if (bt325.2.1 == bt331.2.1 && (bt325.2.2.1 == bt331.2.2.1 && (bt325.2.2.2.1 == bt331.2.2.2.1 && (bt325.2.2.2.2 == bt331.2.2.2.2)))) = true then ((alu_Scf.f a1_0 a1_1 a1_2 a1_3).bind fun bt337 => ((whirligigref02_Scf.f a1_0 a1_1 a1_2 a1_3).bind fun bt341 => (if (bt337.1 == bt341.1 && (bt337.2.1 == bt341.2.1 && (bt337.2.2.1 == bt341.2.2.1 && (bt337.2.2.2 == bt341.2.2.2)))) = true then ((alu_Ccf.f a1_0 a1_1 a1_2 a1_3).bind fun bt345 => ((whirligigref02_Ccf.f a1_0 a1_1 a1_2 a1_3).bind fun bt349 => (some (bt345.1 == bt349.1 && (bt345.2.1 == bt349.2.1 && (bt345.2.2.1 == bt349.2.2.1 && (bt345.2.2.2 == bt349.2.2.2))))))) else (some false)))) else (some false)) else (some false)) else (some false))))) = some r := h
  clear h
  replace H := Option.bind_eq_some_iff.mp H
  obtain ⟨t324, A30, H⟩ := H
  replace H : ((alu_Cpl.f a0 a1_0 a1_1 a1_2 a1_3).bind fun bt325 => ((whirligigref02_Cpl.f a0 a1_0 a1_1 a1_2 a1_3).bind fun bt331 => (if t324 = true then (if bt325.1 = bt331.1 then (if (bt325.2.1 == bt331.2.1 && (bt325.2.2.1 == bt331.2.2.1 && (bt325.2.2.2.1 == bt331.2.2.2.1 && (bt325.2.2.2.2 == bt331.2.2.2.2)))) = true then ((alu_Scf.f a1_0 a1_1 a1_2 a1_3).bind fun bt337 => ((whirligigref02_Scf.f a1_0 a1_1 a1_2 a1_3).bind fun bt341 => (if (bt337.1 == bt341.1 && (bt337.2.1 == bt341.2.1 && (bt337.2.2.1 == bt341.2.2.1 && (bt337.2.2.2 == bt341.2.2.2)))) = true then ((alu_Ccf.f a1_0 a1_1 a1_2 a1_3).bind fun bt345 => ((whirligigref02_Ccf.f a1_0 a1_1 a1_2 a1_3).bind fun bt349 => (some (bt345.1 == bt349.1 && (bt345.2.1 == bt349.2.1 && (bt345.2.2.1 == bt349.2.2.1 && (bt345.2.2.2 == bt349.2.2.2))))))) else (some false)))) else (some false)) else (some false)) else (some false)))) = some r := H
  have A3 := Aside0.mk A30
  clear A30
  replace H := Option.bind_eq_some_iff.mp H
  obtain ⟨⟨t325, t326, t327, t328, t329⟩, A40, H⟩ := H
  replace H : ((whirligigref02_Cpl.f a0 a1_0 a1_1 a1_2 a1_3).bind fun bt331 => (if t324 = true then (if t325 = bt331.1 then (if (t326 == bt331.2.1 && (t327 == bt331.2.2.1 && (t328 == bt331.2.2.2.1 && (t329 == bt331.2.2.2.2)))) = true then ((alu_Scf.f a1_0 a1_1 a1_2 a1_3).bind fun bt337 => ((whirligigref02_Scf.f a1_0 a1_1 a1_2 a1_3).bind fun bt341 => (if (bt337.1 == bt341.1 && (bt337.2.1 == bt341.2.1 && (bt337.2.2.1 == bt341.2.2.1 && (bt337.2.2.2 == bt341.2.2.2)))) = true then ((alu_Ccf.f a1_0 a1_1 a1_2 a1_3).bind fun bt345 => ((whirligigref02_Ccf.f a1_0 a1_1 a1_2 a1_3).bind fun bt349 => (some (bt345.1 == bt349.1 && (bt345.2.1 == bt349.2.1 && (bt345.2.2.1 == bt349.2.2.1 && (bt345.2.2.2 == bt349.2.2.2))))))) else (some false)))) else (some false)) else (some false)) else (some false))) = some r := H
  have A4 := Aside0.mk A40
  clear A40
  replace H := Option.bind_eq_some_iff.mp H
  obtain ⟨⟨t331, t332, t333, t334, t335⟩, A50, H⟩ := H
  replace H : (if t324 = true then (if t325 = t331 then (if (t326 == t332 && (t327 == t333 && (t328 == t334 && (t329 == t335)))) = true then ((alu_Scf.f a1_0 a1_1 a1_2 a1_3).bind fun bt337 => ((whirligigref02_Scf.f a1_0 a1_1 a1_2 a1_3).bind fun bt341 => (if (bt337.1 == bt341.1 && (bt337.2.1 == bt341.2.1 && (bt337.2.2.1 == bt341.2.2.1 && (bt337.2.2.2 == bt341.2.2.2)))) = true then ((alu_Ccf.f a1_0 a1_1 a1_2 a1_3).bind fun bt345 => ((whirligigref02_Ccf.f a1_0 a1_1 a1_2 a1_3).bind fun bt349 => (some (bt345.1 == bt349.1 && (bt345.2.1 == bt349.2.1 && (bt345.2.2.1 == bt349.2.2.1 && (bt345.2.2.2 == bt349.2.2.2))))))) else (some false)))) else (some false)) else (some false)) else (some false)) = some r := H
  have A5 := Aside0.mk A50
  clear A50
  by_cases c6 : t324 = true
  · subst c6
    have H1 : (if t325 = t331 then (if (t326 == t332 && (t327 == t333 && (t328 == t334 && (t329 == t335)))) = true then ((alu_Scf.f a1_0 a1_1 a1_2 a1_3).bind fun bt337 => ((whirligigref02_Scf.f a1_0 a1_1 a1_2 a1_3).bind fun bt341 => (if (bt337.1 == bt341.1 && (bt337.2.1 == bt341.2.1 && (bt337.2.2.1 == bt341.2.2.1 && (bt337.2.2.2 == bt341.2.2.2)))) = true then ((alu_Ccf.f a1_0 a1_1 a1_2 a1_3).bind fun bt345 => ((whirligigref02_Ccf.f a1_0 a1_1 a1_2 a1_3).bind fun bt349 => (some (bt345.1 == bt349.1 && (bt345.2.1 == bt349.2.1 && (bt345.2.2.1 == bt349.2.2.1 && (bt345.2.2.2 == bt349.2.2.2))))))) else (some false)))) else (some false)) else (some false)) = some r := by rw [if_pos rfl] at H; exact H
    clear H
    have H := H1
    clear H1
    by_cases c7 : t325 = t331
    · rw [if_pos c7] at H
      have c7b0 : (t325 == t331) = true := beq_iff_eq.mpr c7
      have c7b1 : (t325 != t331) = false := bne_eq_false_iff_eq.mpr c7
      clear c7
      by_cases c8 : (t326 == t332 && (t327 == t333 && (t328 == t334 && (t329 == t335)))) = true
      · rw [if_pos c8] at H
        have c8b0 : (t326 == t332 && (t327 == t333 && (t328 == t334 && (t329 == t335)))) = true := c8
        (try (have c8b1 : decide (t326 = t332 && (t327 == t333 && (t328 == t334 && (t329 == t335)))) = true := by simpa using c8))
        (try (have c8b2 : (t326 == t332 && (t327 == t333 && (t328 == t334 && (t329 == t335)))) = true := by simpa using c8))
        clear c8
        replace H := Option.bind_eq_some_iff.mp H
        obtain ⟨⟨t337, t338, t339, t340⟩, A90, H⟩ := H
        replace H : ((whirligigref02_Scf.f a1_0 a1_1 a1_2 a1_3).bind fun bt341 => (if (t337 == bt341.1 && (t338 == bt341.2.1 && (t339 == bt341.2.2.1 && (t340 == bt341.2.2.2)))) = true then ((alu_Ccf.f a1_0 a1_1 a1_2 a1_3).bind fun bt345 => ((whirligigref02_Ccf.f a1_0 a1_1 a1_2 a1_3).bind fun bt349 => (some (bt345.1 == bt349.1 && (bt345.2.1 == bt349.2.1 && (bt345.2.2.1 == bt349.2.2.1 && (bt345.2.2.2 == bt349.2.2.2))))))) else (some false))) = some r := H
        have A9 := Aside0.mk A90
        clear A90
        replace H := Option.bind_eq_some_iff.mp H
        obtain ⟨⟨t341, t342, t343, t344⟩, A100, H⟩ := H
        replace H : (if (t337 == t341 && (t338 == t342 && (t339 == t343 && (t340 == t344)))) = true then ((alu_Ccf.f a1_0 a1_1 a1_2 a1_3).bind fun bt345 => ((whirligigref02_Ccf.f a1_0 a1_1 a1_2 a1_3).bind fun bt349 => (some (bt345.1 == bt349.1 && (bt345.2.1 == bt349.2.1 && (bt345.2.2.1 == bt349.2.2.1 && (bt345.2.2.2 == bt349.2.2.2))))))) else (some false)) = some r := H
        have A10 := Aside0.mk A100
        clear A100
        by_cases c11 : (t337 == t341 && (t338 == t342 && (t339 == t343 && (t340 == t344)))) = true
        · rw [if_pos c11] at H
          have c11b0 : (t337 == t341 && (t338 == t342 && (t339 == t343 && (t340 == t344)))) = true := c11
          (try (have c11b1 : decide (t337 = t341 && (t338 == t342 && (t339 == t343 && (t340 == t344)))) = true := by simpa using c11))
          (try (have c11b2 : (t337 == t341 && (t338 == t342 && (t339 == t343 && (t340 == t344)))) = true := by simpa using c11))
          clear c11
          replace H := Option.bind_eq_some_iff.mp H
          obtain ⟨⟨t345, t346, t347, t348⟩, A120, H⟩ := H
          replace H : ((whirligigref02_Ccf.f a1_0 a1_1 a1_2 a1_3).bind fun bt349 => (some (t345 == bt349.1 && (t346 == bt349.2.1 && (t347 == bt349.2.2.1 && (t348 == bt349.2.2.2)))))) = some r := H
          have A12 := Aside0.mk A120
          clear A120
          replace H := Option.bind_eq_some_iff.mp H
          obtain ⟨⟨t349, t350, t351, t352⟩, A130, H⟩ := H
          replace H : (some (t345 == t349 && (t346 == t350 && (t347 == t351 && (t348 == t352))))) = some r := H
          have A13 := Aside0.mk A130
          clear A130
          obtain rfl := Option.some.inj H
          go_enter Try.func8, Try.ntmps8
          try go_wp2_with (first | ((with_reducible refine gate_dst (N := 3) rfl ?_); refine box_event ?hg (N := 3) ?hd (cs := #[.bool a1_0, .bool a1_1, .bool a1_2, .bool a1_3]) (t := 23) ?hr ?_; (case hd => rfl); (case hg => rfl); (case hr => first | (go_simp; done) | (go_simp; rfl)); intro gb323 hg w14 hbox hb; have n0_ := Aside0.mk (below_step (by repeat (first | (with_reducible first | exact HB.out | apply below_alloc | apply pw_below_drewN | apply below_drew1) | exact HB.out)) hb); have n1_ := Aside0.mk (hbox); have n2_ := Aside0.mk ((by rw [hg]; exact (below_size (by repeat (first | (with_reducible first | exact HB.out | apply below_alloc | apply pw_below_drewN | apply below_drew1) | exact HB.out))) : w.heap.size ≤ gb323)); have n3_ := Aside0.mk ((by rw [hg]; exact (below_size (by repeat (first | (with_reducible first | exact HB.out | apply below_alloc | apply pw_below_drewN | apply below_drew1) | exact HB.out))) : w.heap.size ≤ gb323)); clear HB; have HB := n0_; have BK323 := n1_; have GW323 := n2_; have GE323 := n3_; clear n0_ n1_ n2_ n3_; clear hb hbox hg) | ((with_reducible refine gate_callee (f := 11) rfl ?_); refine goesL_ (some 10) rfl rfl Try.func11 (by kernel_rfl) rfl #[] rfl (by (try simp only [List.map_toArray, List.map_cons, List.map_nil]); first | done | rfl | (simp only [List.length_drop, List.length_take]; rfl)) ?_; (with_reducible refine (whirligiglaw02_shown.calls k  true _ A3.out rfl).mono ?_); rintro e w15 ⟨rfl, hb⟩; refine ⟨_, rfl, ?_⟩; have n0_ := Aside0.mk (blk_below (g := gb323) (o := .cells #[.bool a1_0, .bool a1_1, .bool a1_2, .bool a1_3] 23 (0, 0)) (by (with_reducible repeat (first | refine blk_drewN ?_ _ | refine blk_drew ?_ | refine blk_alloc ?_ _)); exact BK323.out) hb); have n1_ := Aside0.mk (below_step (by repeat (first | (with_reducible first | exact HB.out | apply below_alloc | apply pw_below_drewN | apply below_drew1 | refine below_set ?_ GE323.out) | exact HB.out)) hb); clear BK323; clear HB; have BK323 := n0_; have HB := n1_; clear n0_ n1_; (try clear hb); (try clear hb2); (try clear hk); (try clear hi); have hcz16_0 : w15.cell? ⟨gb323, 0, none⟩ = some (.bool a1_0) := (blk_cell BK323.out 0).trans rfl; have hcz16_1 : w15.cell? ⟨gb323, 1, none⟩ = some (.bool a1_1) := (blk_cell BK323.out 1).trans rfl; have hcz16_2 : w15.cell? ⟨gb323, 2, none⟩ = some (.bool a1_2) := (blk_cell BK323.out 2).trans rfl; have hcz16_3 : w15.cell? ⟨gb323, 3, none⟩ = some (.bool a1_3) := (blk_cell BK323.out 3).trans rfl; have hfz16_0 := blk_frozen BK323.out 0; have hfz16_1 := blk_frozen BK323.out 1; have hfz16_2 := blk_frozen BK323.out 2; have hfz16_3 := blk_frozen BK323.out 3) | ((with_reducible refine gate_callee (f := 25) rfl ?_); refine goesL_ (some 14) rfl rfl Try.func25 (by kernel_rfl) rfl #[.int .u8 a0, .agg #[.bool a1_0, .bool a1_1, .bool a1_2, .bool a1_3]] rfl (by (try simp only [List.map_toArray, List.map_cons, List.map_nil]); first | done | rfl | (simp only [List.length_drop, List.length_take]; rfl)) ?_; (with_reducible refine (alu_Cpl.calls a0 a1_0 a1_1 a1_2 a1_3 t325 t326 t327 t328 t329 _ A4.out).mono ?_); rintro e w17 ⟨rfl, hb⟩; refine ⟨_, rfl, ?_⟩; have n0_ := Aside0.mk (blk_below (g := gb323) (o := .cells #[.bool a1_0, .bool a1_1, .bool a1_2, .bool a1_3] 23 (0, 0)) (by (with_reducible repeat (first | refine blk_drewN ?_ _ | refine blk_drew ?_ | refine blk_alloc ?_ _)); exact BK323.out) hb); have n1_ := Aside0.mk (below_step (by repeat (first | (with_reducible first | exact HB.out | apply below_alloc | apply pw_below_drewN | apply below_drew1 | refine below_set ?_ GE323.out) | exact HB.out)) hb); clear BK323; clear HB; have BK323 := n0_; have HB := n1_; clear n0_ n1_; (try clear hb); (try clear hb2); (try clear hk); (try clear hi)) | ((with_reducible refine gate_dst (N := 7) rfl ?_); refine box_event ?hg (N := 7) ?hd (cs := #[.bool false, .bool false, .bool false, .bool false]) (t := 23) ?hr ?_; (case hd => rfl); (case hg => rfl); (case hr => first | (go_simp; done) | (go_simp; rfl)); intro gb330 hg w18 hbox hb; have n0_ := Aside0.mk (blk_below (g := gb323) (o := .cells #[.bool a1_0, .bool a1_1, .bool a1_2, .bool a1_3] 23 (0, 0)) (by (with_reducible repeat (first | refine blk_drewN ?_ _ | refine blk_drew ?_ | refine blk_alloc ?_ _)); exact BK323.out) hb); have n1_ := Aside0.mk (below_step (by repeat (first | (with_reducible first | exact HB.out | apply below_alloc | apply pw_below_drewN | apply below_drew1 | refine below_set ?_ GE323.out) | exact HB.out)) hb); have n2_ := Aside0.mk (hbox); have n3_ := Aside0.mk ((by rw [hg]; exact (below_size (by repeat (first | (with_reducible first | exact HB.out | apply below_alloc | apply pw_below_drewN | apply below_drew1 | refine below_set ?_ GE323.out) | exact HB.out))) : w.heap.size ≤ gb330)); have n4_ := Aside0.mk ((by rw [hg]; exact (below_size (by repeat (first | (with_reducible first | exact HB.out | apply below_alloc | apply pw_below_drewN | apply below_drew1 | refine below_set ?_ GE323.out) | exact HB.out))) : w.heap.size ≤ gb330)); have n5_ := Aside0.mk ((by rw [hg]; exact Nat.ne_of_lt (blk_lt (g := gb323) (o := .cells #[.bool a1_0, .bool a1_1, .bool a1_2, .bool a1_3] 23 (0, 0)) (by (with_reducible repeat (first | refine blk_drewN ?_ _ | refine blk_drew ?_ | refine blk_alloc ?_ _)); exact BK323.out)) : gb323 ≠ gb330)); have n6_ := Aside0.mk ((by rw [hg]; exact Nat.ne_of_gt (blk_lt (g := gb323) (o := .cells #[.bool a1_0, .bool a1_1, .bool a1_2, .bool a1_3] 23 (0, 0)) (by (with_reducible repeat (first | refine blk_drewN ?_ _ | refine blk_drew ?_ | refine blk_alloc ?_ _)); exact BK323.out)) : gb330 ≠ gb323)); clear BK323; clear HB; have BK323 := n0_; have HB := n1_; have BK330 := n2_; have GW330 := n3_; have GE330 := n4_; have NB323_330 := n5_; have NB330_323 := n6_; clear n0_ n1_ n2_ n3_ n4_ n5_ n6_; clear hb hbox hg; have hnb19 := NB330_323.out; have hnc19 := NB323_330.out; have hcz20_0 : w18.cell? ⟨gb330, 0, none⟩ = some (.bool false) := (blk_cell BK330.out 0).trans rfl; have hcz20_1 : w18.cell? ⟨gb330, 1, none⟩ = some (.bool false) := (blk_cell BK330.out 1).trans rfl; have hcz20_2 : w18.cell? ⟨gb330, 2, none⟩ = some (.bool false) := (blk_cell BK330.out 2).trans rfl; have hcz20_3 : w18.cell? ⟨gb330, 3, none⟩ = some (.bool false) := (blk_cell BK330.out 3).trans rfl; have hfz20_0 := blk_frozen BK330.out 0; have hfz20_1 := blk_frozen BK330.out 1; have hfz20_2 := blk_frozen BK330.out 2; have hfz20_3 := blk_frozen BK330.out 3; have hcz21_0 : w18.cell? ⟨gb323, 0, none⟩ = some (.bool a1_0) := (blk_cell BK323.out 0).trans rfl; have hcz21_1 : w18.cell? ⟨gb323, 1, none⟩ = some (.bool a1_1) := (blk_cell BK323.out 1).trans rfl; have hcz21_2 : w18.cell? ⟨gb323, 2, none⟩ = some (.bool a1_2) := (blk_cell BK323.out 2).trans rfl; have hcz21_3 : w18.cell? ⟨gb323, 3, none⟩ = some (.bool a1_3) := (blk_cell BK323.out 3).trans rfl; have hfz21_0 := blk_frozen BK323.out 0; have hfz21_1 := blk_frozen BK323.out 1; have hfz21_2 := blk_frozen BK323.out 2; have hfz21_3 := blk_frozen BK323.out 3) | ((with_reducible refine gate_callee (f := 26) rfl ?_); refine goesL_ (some 20) rfl rfl Try.func26 (by kernel_rfl) rfl #[.int .u8 a0, .agg #[.bool a1_0, .bool a1_1, .bool a1_2, .bool a1_3]] rfl (by (try simp only [List.map_toArray, List.map_cons, List.map_nil]); first | done | rfl | (simp only [List.length_drop, List.length_take]; rfl)) ?_; (with_reducible refine (whirligigref02_Cpl.calls a0 a1_0 a1_1 a1_2 a1_3 t331 t332 t333 t334 t335 _ A5.out).mono ?_); rintro e w22 ⟨rfl, hb⟩; refine ⟨_, rfl, ?_⟩; have n0_ := Aside0.mk (blk_below (g := gb323) (o := .cells #[.bool a1_0, .bool a1_1, .bool a1_2, .bool a1_3] 23 (0, 0)) (by (with_reducible repeat (first | refine blk_drewN ?_ _ | refine blk_drew ?_ | refine blk_alloc ?_ _)); refine blk_far ?_ NB323_330.out _; (with_reducible repeat (first | refine blk_drewN ?_ _ | refine blk_drew ?_ | refine blk_alloc ?_ _)); refine blk_far ?_ NB323_330.out _; (with_reducible repeat (first | refine blk_drewN ?_ _ | refine blk_drew ?_ | refine blk_alloc ?_ _)); refine blk_far ?_ NB323_330.out _; (with_reducible repeat (first | refine blk_drewN ?_ _ | refine blk_drew ?_ | refine blk_alloc ?_ _)); refine blk_far ?_ NB323_330.out _; (with_reducible repeat (first | refine blk_drewN ?_ _ | refine blk_drew ?_ | refine blk_alloc ?_ _)); exact BK323.out) hb); have n1_ := Aside0.mk (blk_below (g := gb330) (o := .cells #[.bool t326, .bool t327, .bool t328, .bool t329] 23 (0, 0)) (by (with_reducible repeat (first | refine blk_drewN ?_ _ | refine blk_drew ?_ | refine blk_alloc ?_ _)); refine blk_put (cs := #[.bool t326, .bool t327, .bool t328, .bool false]) ?_ 3 _ rfl; (with_reducible repeat (first | refine blk_drewN ?_ _ | refine blk_drew ?_ | refine blk_alloc ?_ _)); refine blk_put (cs := #[.bool t326, .bool t327, .bool false, .bool false]) ?_ 2 _ rfl; (with_reducible repeat (first | refine blk_drewN ?_ _ | refine blk_drew ?_ | refine blk_alloc ?_ _)); refine blk_put (cs := #[.bool t326, .bool false, .bool false, .bool false]) ?_ 1 _ rfl; (with_reducible repeat (first | refine blk_drewN ?_ _ | refine blk_drew ?_ | refine blk_alloc ?_ _)); refine blk_put (cs := #[.bool false, .bool false, .bool false, .bool false]) ?_ 0 _ rfl; (with_reducible repeat (first | refine blk_drewN ?_ _ | refine blk_drew ?_ | refine blk_alloc ?_ _)); exact BK330.out) hb); have n2_ := Aside0.mk (below_step (by repeat (first | (with_reducible first | exact HB.out | apply below_alloc | apply pw_below_drewN | apply below_drew1 | refine below_set ?_ GE323.out | refine below_set ?_ GE330.out) | exact HB.out)) hb); clear BK323; clear BK330; clear HB; have BK323 := n0_; have BK330 := n1_; have HB := n2_; clear n0_ n1_ n2_; (try clear hb); (try clear hb2); (try clear hk); (try clear hi)) | ((with_reducible refine gate_dst (N := 9) rfl ?_); refine box_event ?hg (N := 9) ?hd (cs := #[.bool false, .bool false, .bool false, .bool false]) (t := 23) ?hr ?_; (case hd => rfl); (case hg => rfl); (case hr => first | (go_simp; done) | (go_simp; rfl)); intro gb336 hg w23 hbox hb; have n0_ := Aside0.mk (blk_below (g := gb323) (o := .cells #[.bool a1_0, .bool a1_1, .bool a1_2, .bool a1_3] 23 (0, 0)) (by (with_reducible repeat (first | refine blk_drewN ?_ _ | refine blk_drew ?_ | refine blk_alloc ?_ _)); exact BK323.out) hb); have n1_ := Aside0.mk (blk_below (g := gb330) (o := .cells #[.bool t326, .bool t327, .bool t328, .bool t329] 23 (0, 0)) (by (with_reducible repeat (first | refine blk_drewN ?_ _ | refine blk_drew ?_ | refine blk_alloc ?_ _)); exact BK330.out) hb); have n2_ := Aside0.mk (below_step (by repeat (first | (with_reducible first | exact HB.out | apply below_alloc | apply pw_below_drewN | apply below_drew1 | refine below_set ?_ GE323.out | refine below_set ?_ GE330.out) | exact HB.out)) hb); have n3_ := Aside0.mk (hbox); have n4_ := Aside0.mk ((by rw [hg]; exact (below_size (by repeat (first | (with_reducible first | exact HB.out | apply below_alloc | apply pw_below_drewN | apply below_drew1 | refine below_set ?_ GE323.out | refine below_set ?_ GE330.out) | exact HB.out))) : w.heap.size ≤ gb336)); have n5_ := Aside0.mk ((by rw [hg]; exact (below_size (by repeat (first | (with_reducible first | exact HB.out | apply below_alloc | apply pw_below_drewN | apply below_drew1 | refine below_set ?_ GE323.out | refine below_set ?_ GE330.out) | exact HB.out))) : w.heap.size ≤ gb336)); have n6_ := Aside0.mk ((by rw [hg]; exact Nat.ne_of_lt (blk_lt (g := gb323) (o := .cells #[.bool a1_0, .bool a1_1, .bool a1_2, .bool a1_3] 23 (0, 0)) (by (with_reducible repeat (first | refine blk_drewN ?_ _ | refine blk_drew ?_ | refine blk_alloc ?_ _)); exact BK323.out)) : gb323 ≠ gb336)); have n7_ := Aside0.mk ((by rw [hg]; exact Nat.ne_of_gt (blk_lt (g := gb323) (o := .cells #[.bool a1_0, .bool a1_1, .bool a1_2, .bool a1_3] 23 (0, 0)) (by (with_reducible repeat (first | refine blk_drewN ?_ _ | refine blk_drew ?_ | refine blk_alloc ?_ _)); exact BK323.out)) : gb336 ≠ gb323)); have n8_ := Aside0.mk ((by rw [hg]; exact Nat.ne_of_lt (blk_lt (g := gb330) (o := .cells #[.bool t326, .bool t327, .bool t328, .bool t329] 23 (0, 0)) (by (with_reducible repeat (first | refine blk_drewN ?_ _ | refine blk_drew ?_ | refine blk_alloc ?_ _)); exact BK330.out)) : gb330 ≠ gb336)); have n9_ := Aside0.mk ((by rw [hg]; exact Nat.ne_of_gt (blk_lt (g := gb330) (o := .cells #[.bool t326, .bool t327, .bool t328, .bool t329] 23 (0, 0)) (by (with_reducible repeat (first | refine blk_drewN ?_ _ | refine blk_drew ?_ | refine blk_alloc ?_ _)); exact BK330.out)) : gb336 ≠ gb330)); clear BK323; clear BK330; clear HB; have BK323 := n0_; have BK330 := n1_; have HB := n2_; have BK336 := n3_; have GW336 := n4_; have GE336 := n5_; have NB323_336 := n6_; have NB336_323 := n7_; have NB330_336 := n8_; have NB336_330 := n9_; clear n0_ n1_ n2_ n3_ n4_ n5_ n6_ n7_ n8_ n9_; clear hb hbox hg; have hnb24 := NB336_323.out; have hnc24 := NB323_336.out; have hnb25 := NB336_330.out; have hnc25 := NB330_336.out; have hcz26_0 : w23.cell? ⟨gb336, 0, none⟩ = some (.bool false) := (blk_cell BK336.out 0).trans rfl; have hcz26_1 : w23.cell? ⟨gb336, 1, none⟩ = some (.bool false) := (blk_cell BK336.out 1).trans rfl; have hcz26_2 : w23.cell? ⟨gb336, 2, none⟩ = some (.bool false) := (blk_cell BK336.out 2).trans rfl; have hcz26_3 : w23.cell? ⟨gb336, 3, none⟩ = some (.bool false) := (blk_cell BK336.out 3).trans rfl; have hfz26_0 := blk_frozen BK336.out 0; have hfz26_1 := blk_frozen BK336.out 1; have hfz26_2 := blk_frozen BK336.out 2; have hfz26_3 := blk_frozen BK336.out 3))
          have n0_ : Aside0 (((((w23.setCell ⟨gb336, 0, none⟩ (.bool t332)).setCell ⟨gb336, 1, none⟩ (.bool t333)).setCell ⟨gb336, 2, none⟩ (.bool t334)).setCell ⟨gb336, 3, none⟩ (.bool t335)).heap[gb323]? = some (.cells #[.bool a1_0, .bool a1_1, .bool a1_2, .bool a1_3] 23 (0, 0))) := ⟨by (with_reducible repeat (first | refine blk_drewN ?_ _ | refine blk_drew ?_ | refine blk_alloc ?_ _)); refine blk_far ?_ NB323_336.out _; (with_reducible repeat (first | refine blk_drewN ?_ _ | refine blk_drew ?_ | refine blk_alloc ?_ _)); refine blk_far ?_ NB323_336.out _; (with_reducible repeat (first | refine blk_drewN ?_ _ | refine blk_drew ?_ | refine blk_alloc ?_ _)); refine blk_far ?_ NB323_336.out _; (with_reducible repeat (first | refine blk_drewN ?_ _ | refine blk_drew ?_ | refine blk_alloc ?_ _)); refine blk_far ?_ NB323_336.out _; (with_reducible repeat (first | refine blk_drewN ?_ _ | refine blk_drew ?_ | refine blk_alloc ?_ _)); exact BK323.out⟩
          have n1_ : Aside0 (((((w23.setCell ⟨gb336, 0, none⟩ (.bool t332)).setCell ⟨gb336, 1, none⟩ (.bool t333)).setCell ⟨gb336, 2, none⟩ (.bool t334)).setCell ⟨gb336, 3, none⟩ (.bool t335)).heap[gb330]? = some (.cells #[.bool t326, .bool t327, .bool t328, .bool t329] 23 (0, 0))) := ⟨by (with_reducible repeat (first | refine blk_drewN ?_ _ | refine blk_drew ?_ | refine blk_alloc ?_ _)); refine blk_far ?_ NB330_336.out _; (with_reducible repeat (first | refine blk_drewN ?_ _ | refine blk_drew ?_ | refine blk_alloc ?_ _)); refine blk_far ?_ NB330_336.out _; (with_reducible repeat (first | refine blk_drewN ?_ _ | refine blk_drew ?_ | refine blk_alloc ?_ _)); refine blk_far ?_ NB330_336.out _; (with_reducible repeat (first | refine blk_drewN ?_ _ | refine blk_drew ?_ | refine blk_alloc ?_ _)); refine blk_far ?_ NB330_336.out _; (with_reducible repeat (first | refine blk_drewN ?_ _ | refine blk_drew ?_ | refine blk_alloc ?_ _)); exact BK330.out⟩
          have n2_ : Aside0 (((((w23.setCell ⟨gb336, 0, none⟩ (.bool t332)).setCell ⟨gb336, 1, none⟩ (.bool t333)).setCell ⟨gb336, 2, none⟩ (.bool t334)).setCell ⟨gb336, 3, none⟩ (.bool t335)).heap[gb336]? = some (.cells #[.bool t332, .bool t333, .bool t334, .bool t335] 23 (0, 0))) := ⟨by (with_reducible repeat (first | refine blk_drewN ?_ _ | refine blk_drew ?_ | refine blk_alloc ?_ _)); refine blk_put (cs := #[.bool t332, .bool t333, .bool t334, .bool false]) ?_ 3 _ rfl; (with_reducible repeat (first | refine blk_drewN ?_ _ | refine blk_drew ?_ | refine blk_alloc ?_ _)); refine blk_put (cs := #[.bool t332, .bool t333, .bool false, .bool false]) ?_ 2 _ rfl; (with_reducible repeat (first | refine blk_drewN ?_ _ | refine blk_drew ?_ | refine blk_alloc ?_ _)); refine blk_put (cs := #[.bool t332, .bool false, .bool false, .bool false]) ?_ 1 _ rfl; (with_reducible repeat (first | refine blk_drewN ?_ _ | refine blk_drew ?_ | refine blk_alloc ?_ _)); refine blk_put (cs := #[.bool false, .bool false, .bool false, .bool false]) ?_ 0 _ rfl; (with_reducible repeat (first | refine blk_drewN ?_ _ | refine blk_drew ?_ | refine blk_alloc ?_ _)); exact BK336.out⟩
          have n3_ : Aside0 (Below w.heap.size w ((((w23.setCell ⟨gb336, 0, none⟩ (.bool t332)).setCell ⟨gb336, 1, none⟩ (.bool t333)).setCell ⟨gb336, 2, none⟩ (.bool t334)).setCell ⟨gb336, 3, none⟩ (.bool t335))) := ⟨by repeat (first | (with_reducible first | exact HB.out | apply below_alloc | apply pw_below_drewN | apply below_drew1 | refine below_set ?_ GE323.out | refine below_set ?_ GE330.out | refine below_set ?_ GE336.out) | exact HB.out)⟩
          (try clear BK323)
          (try clear BK330)
          (try clear BK336)
          (try clear HB)
          generalize ((((w23.setCell ⟨gb336, 0, none⟩ (.bool t332)).setCell ⟨gb336, 1, none⟩ (.bool t333)).setCell ⟨gb336, 2, none⟩ (.bool t334)).setCell ⟨gb336, 3, none⟩ (.bool t335)) = w27 at n0_ n1_ n2_ n3_ ⊢
          have BK323 := n0_
          have BK330 := n1_
          have BK336 := n2_
          have HB := n3_
          clear n0_ n1_ n2_ n3_
          have n0_ := Aside0.mk (blk_drew BK323.out)
          have n1_ := Aside0.mk (blk_drew BK330.out)
          have n2_ := Aside0.mk (blk_drew BK336.out)
          have n3_ := Aside0.mk (below_drew1 HB.out)
          clear BK323
          clear BK330
          clear BK336
          clear HB
          have BK323 := n0_
          have BK330 := n1_
          have BK336 := n2_
          have HB := n3_
          clear n0_ n1_ n2_ n3_
          refine start_ (n := 26) (S := fun w' => w'.cell? ⟨gb330, 0, none⟩ = some (.bool t326) ∧ w'.cell? ⟨gb330, 1, none⟩ = some (.bool t327) ∧ w'.cell? ⟨gb330, 2, none⟩ = some (.bool t328) ∧ w'.cell? ⟨gb330, 3, none⟩ = some (.bool t329) ∧ w'.cell? ⟨gb336, 0, none⟩ = some (.bool t332) ∧ w'.cell? ⟨gb336, 1, none⟩ = some (.bool t333) ∧ w'.cell? ⟨gb336, 2, none⟩ = some (.bool t334) ∧ w'.cell? ⟨gb336, 3, none⟩ = some (.bool t335) ∧ w'.cell? ⟨gb323, 0, none⟩ = some (.bool a1_0) ∧ w'.cell? ⟨gb323, 1, none⟩ = some (.bool a1_1) ∧ w'.cell? ⟨gb323, 2, none⟩ = some (.bool a1_2) ∧ w'.cell? ⟨gb323, 3, none⟩ = some (.bool a1_3)) (ds := []) #[false, false, false, false, false, false, false, false, false, false, false, false, false, false, false, false, false, false, false, false, false, false, false, false, false, false] (by kernel_rfl) rfl rfl ⟨(blk_cell BK330.out 0).trans rfl, (blk_cell BK330.out 1).trans rfl, (blk_cell BK330.out 2).trans rfl, (blk_cell BK330.out 3).trans rfl, (blk_cell BK336.out 0).trans rfl, (blk_cell BK336.out 1).trans rfl, (blk_cell BK336.out 2).trans rfl, (blk_cell BK336.out 3).trans rfl, (blk_cell BK323.out 0).trans rfl, (blk_cell BK323.out 1).trans rfl, (blk_cell BK323.out 2).trans rfl, (blk_cell BK323.out 3).trans rfl⟩ (fun hHeld => ?_); refine with_tabW whirligiglaw02_AluTurns.tab4 whirligiglaw02_AluTurns.bits4 (fun HT_ HW_ => ?_)
          generalize w27.drew = w28 at BK323 BK330 BK336 HB hHeld ⊢
          refine pure_ (i := 0) (N := some 23) (v := ?_) (a' := ?_) #[true, false, false, false, false, false, false, false, false, false, false, false, false, false, false, false, false, false, false, false, false, false, false, false, false, false] rfl rfl (any_of HT_.out (by kernel_rfl)) (fun _ _ _ h => h) (Or.inl ⟨by rfl, ?_⟩) ?_ ?_
          rotate_left
          · intro w'
            go_simp
            with_reducible rfl
          rotate_left
          · simp only [Act.put, List.setIfInBounds_toArray, List.set_cons_zero, List.set_cons_succ, i64_w, i32_w]
            rfl
          refine pure_ (i := 1) (N := some 24) (v := ?_) (a' := ?_) #[true, true, false, false, false, false, false, false, false, false, false, false, false, false, false, false, false, false, false, false, false, false, false, false, false, false] rfl rfl (any_of HT_.out (by kernel_rfl)) (fun _ _ _ h => h) (Or.inl ⟨by rfl, ?_⟩) ?_ ?_
          rotate_left
          · intro w'
            go_simp
            with_reducible rfl
          rotate_left
          · simp only [Act.put, List.setIfInBounds_toArray, List.set_cons_zero, List.set_cons_succ, i64_w, i32_w]
            rfl
          refine pure_ (i := 2) (N := some 25) (v := ?_) (a' := ?_) #[true, true, true, false, false, false, false, false, false, false, false, false, false, false, false, false, false, false, false, false, false, false, false, false, false, false] rfl rfl (any_of HT_.out (by kernel_rfl)) (fun _ _ _ h => h) (Or.inl ⟨by rfl, ?_⟩) ?_ ?_
          rotate_left
          · intro w'
            go_simp
            with_reducible rfl
          rotate_left
          · simp only [Act.put, List.setIfInBounds_toArray, List.set_cons_zero, List.set_cons_succ, i64_w, i32_w]
            rfl
          refine pure_ (i := 3) (N := some 26) (v := ?_) (a' := ?_) #[true, true, true, true, false, false, false, false, false, false, false, false, false, false, false, false, false, false, false, false, false, false, false, false, false, false] rfl rfl (any_of HT_.out (by kernel_rfl)) (fun _ _ _ h => h) (Or.inl ⟨by rfl, ?_⟩) ?_ ?_
          rotate_left
          · intro w'
            go_simp
            with_reducible rfl
          rotate_left
          · simp only [Act.put, List.setIfInBounds_toArray, List.set_cons_zero, List.set_cons_succ, i64_w, i32_w]
            rfl
          refine pure_ (i := 4) (N := some 27) (v := ?_) (a' := ?_) #[true, true, true, true, true, false, false, false, false, false, false, false, false, false, false, false, false, false, false, false, false, false, false, false, false, false] rfl rfl (any_of HT_.out (by kernel_rfl)) (fun _ _ _ h => h) (Or.inl ⟨by rfl, ?_⟩) ?_ ?_
          rotate_left
          · intro w'
            go_simp
            with_reducible rfl
          rotate_left
          · simp only [Act.put, List.setIfInBounds_toArray, List.set_cons_zero, List.set_cons_succ, i64_w, i32_w]
            rfl
          refine pure_ (i := 5) (N := some 28) (v := ?_) (a' := ?_) #[true, true, true, true, true, true, false, false, false, false, false, false, false, false, false, false, false, false, false, false, false, false, false, false, false, false] rfl rfl (any_of HT_.out (by kernel_rfl)) (fun _ _ _ h => h) (Or.inl ⟨by rfl, ?_⟩) ?_ ?_
          rotate_left
          · intro w'
            go_simp
            with_reducible rfl
          rotate_left
          · simp only [Act.put, List.setIfInBounds_toArray, List.set_cons_zero, List.set_cons_succ, i64_w, i32_w]
            rfl
          refine pure_ (i := 6) (N := some 29) (v := ?_) (a' := ?_) #[true, true, true, true, true, true, true, false, false, false, false, false, false, false, false, false, false, false, false, false, false, false, false, false, false, false] rfl rfl (any_of HT_.out (by kernel_rfl)) (fun _ _ _ h => h) (Or.inl ⟨by rfl, ?_⟩) ?_ ?_
          rotate_left
          · intro w'
            go_simp
            with_reducible rfl
          rotate_left
          · simp only [Act.put, List.setIfInBounds_toArray, List.set_cons_zero, List.set_cons_succ, i64_w, i32_w]
            rfl
          refine take_ (i := 7) (N := some 30) (v := ?_) (a' := ?_) #[true, true, true, true, true, true, true, true, false, false, false, false, false, false, false, false, false, false, false, false, false, false, false, false, false, false] rfl rfl (take_ofW HT_.out HW_.out (by kernel_rfl)) (fun _ _ _ h => h) (Or.inl ⟨by rfl, ?_⟩) hHeld ?_ ?_
          rotate_left
          · rintro w' ⟨s0, s1, s2, s3, s4, s5, s6, s7, s8, s9, s10, s11⟩
            go_simp
            with_reducible rfl
          rotate_left
          · simp only [Act.put, List.setIfInBounds_toArray, List.set_cons_zero, List.set_cons_succ, i64_w, i32_w]
            rfl
          refine take_ (i := 8) (N := some 31) (v := ?_) (a' := ?_) #[true, true, true, true, true, true, true, true, true, false, false, false, false, false, false, false, false, false, false, false, false, false, false, false, false, false] rfl rfl (take_ofW HT_.out HW_.out (by kernel_rfl)) (fun _ _ _ h => h) (Or.inl ⟨by rfl, ?_⟩) hHeld ?_ ?_
          rotate_left
          · rintro w' ⟨s0, s1, s2, s3, s4, s5, s6, s7, s8, s9, s10, s11⟩
            go_simp
            with_reducible rfl
          rotate_left
          · simp only [Act.put, List.setIfInBounds_toArray, List.set_cons_zero, List.set_cons_succ, i64_w, i32_w]
            rfl
          refine pure_ (i := 9) (N := some 32) (v := ?_) (a' := ?_) #[true, true, true, true, true, true, true, true, true, true, false, false, false, false, false, false, false, false, false, false, false, false, false, false, false, false] rfl rfl (any_of HT_.out (by kernel_rfl)) (fun _ _ _ h => h) (Or.inl ⟨by rfl, ?_⟩) ?_ ?_
          rotate_left
          · intro w'
            go_simp
            with_reducible rfl
          rotate_left
          · simp only [Act.put, List.setIfInBounds_toArray, List.set_cons_zero, List.set_cons_succ, i64_w, i32_w]
            rfl
          refine pure_ (i := 10) (N := some 33) (v := ?_) (a' := ?_) #[true, true, true, true, true, true, true, true, true, true, true, false, false, false, false, false, false, false, false, false, false, false, false, false, false, false] rfl rfl (any_of HT_.out (by kernel_rfl)) (fun _ _ _ h => h) (Or.inl ⟨by rfl, ?_⟩) ?_ ?_
          rotate_left
          · intro w'
            go_simp
            with_reducible rfl
          rotate_left
          · simp only [Act.put, List.setIfInBounds_toArray, List.set_cons_zero, List.set_cons_succ, i64_w, i32_w]
            rfl
          refine pure_ (i := 11) (N := some 34) (v := ?_) (a' := ?_) #[true, true, true, true, true, true, true, true, true, true, true, true, false, false, false, false, false, false, false, false, false, false, false, false, false, false] rfl rfl (any_of HT_.out (by kernel_rfl)) (fun _ _ _ h => h) (Or.inl ⟨by rfl, ?_⟩) ?_ ?_
          rotate_left
          · intro w'
            go_simp
            with_reducible rfl
          rotate_left
          · simp only [Act.put, List.setIfInBounds_toArray, List.set_cons_zero, List.set_cons_succ, i64_w, i32_w]
            rfl
          refine take_ (i := 12) (N := some 35) (v := ?_) (a' := ?_) #[true, true, true, true, true, true, true, true, true, true, true, true, true, false, false, false, false, false, false, false, false, false, false, false, false, false] rfl rfl (take_ofW HT_.out HW_.out (by kernel_rfl)) (fun _ _ _ h => h) (Or.inl ⟨by rfl, ?_⟩) hHeld ?_ ?_
          rotate_left
          · rintro w' ⟨s0, s1, s2, s3, s4, s5, s6, s7, s8, s9, s10, s11⟩
            go_simp
            with_reducible rfl
          rotate_left
          · simp only [Act.put, List.setIfInBounds_toArray, List.set_cons_zero, List.set_cons_succ, i64_w, i32_w]
            rfl
          refine take_ (i := 14) (N := some 37) (v := ?_) (a' := ?_) #[true, true, true, true, true, true, true, true, true, true, true, true, true, false, true, false, false, false, false, false, false, false, false, false, false, false] rfl rfl (take_ofW HT_.out HW_.out (by kernel_rfl)) (fun _ _ _ h => h) (Or.inl ⟨by rfl, ?_⟩) hHeld ?_ ?_
          rotate_left
          · rintro w' ⟨s0, s1, s2, s3, s4, s5, s6, s7, s8, s9, s10, s11⟩
            go_simp
            with_reducible rfl
          rotate_left
          · simp only [Act.put, List.setIfInBounds_toArray, List.set_cons_zero, List.set_cons_succ, i64_w, i32_w]
            rfl
          refine one_ (i := 13) (N := some 36) #[true, true, true, true, true, true, true, true, true, true, true, true, true, true, true, false, false, false, false, false, false, false, false, false, false, false] rfl rfl (one_of HT_.out (by kernel_rfl)) (by decide) (fun K hK => ?_)
          refine goes_ Try.func27 (by kernel_rfl) rfl #[.agg #[.bool a1_0, .bool a1_1, .bool a1_2, .bool a1_3]] (by rfl) rfl rfl (by (try simp only [List.map_toArray, List.map_cons, List.map_nil]); first | done | rfl | (simp only [List.length_drop, List.length_take]; rfl)) ?_
          with_reducible refine (alu_Scf.calls a1_0 a1_1 a1_2 a1_3 t337 t338 t339 t340 _ A9.out).mono ?_
          rintro e w29 ⟨rfl, hb⟩
          refine ⟨_, rfl, ?_⟩
          have n0_ := Aside0.mk (blk_below (g := gb323) (o := .cells #[.bool a1_0, .bool a1_1, .bool a1_2, .bool a1_3] 23 (0, 0)) (by (with_reducible repeat (first | refine blk_drewN ?_ _ | refine blk_drew ?_ | refine blk_alloc ?_ _)); exact BK323.out) hb)
          have n1_ := Aside0.mk (blk_below (g := gb330) (o := .cells #[.bool t326, .bool t327, .bool t328, .bool t329] 23 (0, 0)) (by (with_reducible repeat (first | refine blk_drewN ?_ _ | refine blk_drew ?_ | refine blk_alloc ?_ _)); exact BK330.out) hb)
          have n2_ := Aside0.mk (blk_below (g := gb336) (o := .cells #[.bool t332, .bool t333, .bool t334, .bool t335] 23 (0, 0)) (by (with_reducible repeat (first | refine blk_drewN ?_ _ | refine blk_drew ?_ | refine blk_alloc ?_ _)); exact BK336.out) hb)
          have n3_ := Aside0.mk (below_step (by repeat (first | (with_reducible first | exact HB.out | apply below_alloc | apply pw_below_drewN | apply below_drew1 | refine below_set ?_ GE323.out | refine below_set ?_ GE330.out | refine below_set ?_ GE336.out) | exact HB.out)) hb)
          clear BK323
          clear BK330
          clear BK336
          clear HB
          have BK323 := n0_
          have BK330 := n1_
          have BK336 := n2_
          have HB := n3_
          clear n0_ n1_ n2_ n3_
          (try clear hb)
          (try clear hb2)
          (try clear hk)
          (try clear hi)
          refine hK.out _ _ ⟨(blk_cell BK330.out 0).trans rfl, (blk_cell BK330.out 1).trans rfl, (blk_cell BK330.out 2).trans rfl, (blk_cell BK330.out 3).trans rfl, (blk_cell BK336.out 0).trans rfl, (blk_cell BK336.out 1).trans rfl, (blk_cell BK336.out 2).trans rfl, (blk_cell BK336.out 3).trans rfl, (blk_cell BK323.out 0).trans rfl, (blk_cell BK323.out 1).trans rfl, (blk_cell BK323.out 2).trans rfl, (blk_cell BK323.out 3).trans rfl⟩ (fun hHeld => ?_)
          clear hK K
          refine norm_ (a' := ?_) ?_ ?_
          rotate_left
          · show Act.put _ (some 36) _ = _
            simp only [Act.put, List.setIfInBounds_toArray, List.set_cons_zero, List.set_cons_succ, i64_w, i32_w]
            rfl
          refine one_ (i := 15) (N := some 38) #[true, true, true, true, true, true, true, true, true, true, true, true, true, true, true, true, false, false, false, false, false, false, false, false, false, false] rfl rfl (one_of HT_.out (by kernel_rfl)) (by decide) (fun K hK => ?_)
          refine goes_ Try.func28 (by kernel_rfl) rfl #[.agg #[.bool a1_0, .bool a1_1, .bool a1_2, .bool a1_3]] (by rfl) rfl rfl (by (try simp only [List.map_toArray, List.map_cons, List.map_nil]); first | done | rfl | (simp only [List.length_drop, List.length_take]; rfl)) ?_
          with_reducible refine (whirligigref02_Scf.calls a1_0 a1_1 a1_2 a1_3 t341 t342 t343 t344 _ A10.out).mono ?_
          rintro e w30 ⟨rfl, hb⟩
          refine ⟨_, rfl, ?_⟩
          have n0_ := Aside0.mk (blk_below (g := gb323) (o := .cells #[.bool a1_0, .bool a1_1, .bool a1_2, .bool a1_3] 23 (0, 0)) (by (with_reducible repeat (first | refine blk_drewN ?_ _ | refine blk_drew ?_ | refine blk_alloc ?_ _)); exact BK323.out) hb)
          have n1_ := Aside0.mk (blk_below (g := gb330) (o := .cells #[.bool t326, .bool t327, .bool t328, .bool t329] 23 (0, 0)) (by (with_reducible repeat (first | refine blk_drewN ?_ _ | refine blk_drew ?_ | refine blk_alloc ?_ _)); exact BK330.out) hb)
          have n2_ := Aside0.mk (blk_below (g := gb336) (o := .cells #[.bool t332, .bool t333, .bool t334, .bool t335] 23 (0, 0)) (by (with_reducible repeat (first | refine blk_drewN ?_ _ | refine blk_drew ?_ | refine blk_alloc ?_ _)); exact BK336.out) hb)
          have n3_ := Aside0.mk (below_step (by repeat (first | (with_reducible first | exact HB.out | apply below_alloc | apply pw_below_drewN | apply below_drew1 | refine below_set ?_ GE323.out | refine below_set ?_ GE330.out | refine below_set ?_ GE336.out) | exact HB.out)) hb)
          clear BK323
          clear BK330
          clear BK336
          clear HB
          have BK323 := n0_
          have BK330 := n1_
          have BK336 := n2_
          have HB := n3_
          clear n0_ n1_ n2_ n3_
          (try clear hb)
          (try clear hb2)
          (try clear hk)
          (try clear hi)
          refine hK.out _ _ ⟨(blk_cell BK330.out 0).trans rfl, (blk_cell BK330.out 1).trans rfl, (blk_cell BK330.out 2).trans rfl, (blk_cell BK330.out 3).trans rfl, (blk_cell BK336.out 0).trans rfl, (blk_cell BK336.out 1).trans rfl, (blk_cell BK336.out 2).trans rfl, (blk_cell BK336.out 3).trans rfl, (blk_cell BK323.out 0).trans rfl, (blk_cell BK323.out 1).trans rfl, (blk_cell BK323.out 2).trans rfl, (blk_cell BK323.out 3).trans rfl⟩ (fun hHeld => ?_)
          clear hK K
          refine norm_ (a' := ?_) ?_ ?_
          rotate_left
          · show Act.put _ (some 38) _ = _
            simp only [Act.put, List.setIfInBounds_toArray, List.set_cons_zero, List.set_cons_succ, i64_w, i32_w]
            rfl
          refine pure_ (i := 16) (N := some 39) (v := ?_) (a' := ?_) #[true, true, true, true, true, true, true, true, true, true, true, true, true, true, true, true, true, false, false, false, false, false, false, false, false, false] rfl rfl (any_of HT_.out (by kernel_rfl)) (fun _ _ _ h => h) (Or.inl ⟨by rfl, ?_⟩) ?_ ?_
          rotate_left
          · intro w'
            go_simp
            with_reducible rfl
          rotate_left
          · simp only [Act.put, List.setIfInBounds_toArray, List.set_cons_zero, List.set_cons_succ, i64_w, i32_w]
            rfl
          refine pure_ (i := 17) (N := some 40) (v := ?_) (a' := ?_) #[true, true, true, true, true, true, true, true, true, true, true, true, true, true, true, true, true, true, false, false, false, false, false, false, false, false] rfl rfl (any_of HT_.out (by kernel_rfl)) (fun _ _ _ h => h) (Or.inl ⟨by rfl, ?_⟩) ?_ ?_
          rotate_left
          · intro w'
            go_simp
            with_reducible rfl
          rotate_left
          · simp only [Act.put, List.setIfInBounds_toArray, List.set_cons_zero, List.set_cons_succ, i64_w, i32_w]
            rfl
          refine pure_ (i := 18) (N := some 41) (v := ?_) (a' := ?_) #[true, true, true, true, true, true, true, true, true, true, true, true, true, true, true, true, true, true, true, false, false, false, false, false, false, false] rfl rfl (any_of HT_.out (by kernel_rfl)) (fun _ _ _ h => h) (Or.inl ⟨by rfl, ?_⟩) ?_ ?_
          rotate_left
          · intro w'
            go_simp
            with_reducible rfl
          rotate_left
          · simp only [Act.put, List.setIfInBounds_toArray, List.set_cons_zero, List.set_cons_succ, i64_w, i32_w]
            rfl
          refine take_ (i := 19) (N := some 42) (v := ?_) (a' := ?_) #[true, true, true, true, true, true, true, true, true, true, true, true, true, true, true, true, true, true, true, true, false, false, false, false, false, false] rfl rfl (take_ofW HT_.out HW_.out (by kernel_rfl)) (fun _ _ _ h => h) (Or.inl ⟨by rfl, ?_⟩) hHeld ?_ ?_
          rotate_left
          · rintro w' ⟨s0, s1, s2, s3, s4, s5, s6, s7, s8, s9, s10, s11⟩
            go_simp
            with_reducible rfl
          rotate_left
          · simp only [Act.put, List.setIfInBounds_toArray, List.set_cons_zero, List.set_cons_succ, i64_w, i32_w]
            rfl
          refine take_ (i := 21) (N := some 44) (v := ?_) (a' := ?_) #[true, true, true, true, true, true, true, true, true, true, true, true, true, true, true, true, true, true, true, true, false, true, false, false, false, false] rfl rfl (take_ofW HT_.out HW_.out (by kernel_rfl)) (fun _ _ _ h => h) (Or.inl ⟨by rfl, ?_⟩) hHeld ?_ ?_
          rotate_left
          · rintro w' ⟨s0, s1, s2, s3, s4, s5, s6, s7, s8, s9, s10, s11⟩
            go_simp
            with_reducible rfl
          rotate_left
          · simp only [Act.put, List.setIfInBounds_toArray, List.set_cons_zero, List.set_cons_succ, i64_w, i32_w]
            rfl
          refine one_ (i := 20) (N := some 43) #[true, true, true, true, true, true, true, true, true, true, true, true, true, true, true, true, true, true, true, true, true, true, false, false, false, false] rfl rfl (one_of HT_.out (by kernel_rfl)) (by decide) (fun K hK => ?_)
          refine goes_ Try.func29 (by kernel_rfl) rfl #[.agg #[.bool a1_0, .bool a1_1, .bool a1_2, .bool a1_3]] (by rfl) rfl rfl (by (try simp only [List.map_toArray, List.map_cons, List.map_nil]); first | done | rfl | (simp only [List.length_drop, List.length_take]; rfl)) ?_
          with_reducible refine (alu_Ccf.calls a1_0 a1_1 a1_2 a1_3 t345 t346 t347 t348 _ A12.out).mono ?_
          rintro e w31 ⟨rfl, hb⟩
          refine ⟨_, rfl, ?_⟩
          have n0_ := Aside0.mk (blk_below (g := gb323) (o := .cells #[.bool a1_0, .bool a1_1, .bool a1_2, .bool a1_3] 23 (0, 0)) (by (with_reducible repeat (first | refine blk_drewN ?_ _ | refine blk_drew ?_ | refine blk_alloc ?_ _)); exact BK323.out) hb)
          have n1_ := Aside0.mk (blk_below (g := gb330) (o := .cells #[.bool t326, .bool t327, .bool t328, .bool t329] 23 (0, 0)) (by (with_reducible repeat (first | refine blk_drewN ?_ _ | refine blk_drew ?_ | refine blk_alloc ?_ _)); exact BK330.out) hb)
          have n2_ := Aside0.mk (blk_below (g := gb336) (o := .cells #[.bool t332, .bool t333, .bool t334, .bool t335] 23 (0, 0)) (by (with_reducible repeat (first | refine blk_drewN ?_ _ | refine blk_drew ?_ | refine blk_alloc ?_ _)); exact BK336.out) hb)
          have n3_ := Aside0.mk (below_step (by repeat (first | (with_reducible first | exact HB.out | apply below_alloc | apply pw_below_drewN | apply below_drew1 | refine below_set ?_ GE323.out | refine below_set ?_ GE330.out | refine below_set ?_ GE336.out) | exact HB.out)) hb)
          clear BK323
          clear BK330
          clear BK336
          clear HB
          have BK323 := n0_
          have BK330 := n1_
          have BK336 := n2_
          have HB := n3_
          clear n0_ n1_ n2_ n3_
          (try clear hb)
          (try clear hb2)
          (try clear hk)
          (try clear hi)
          refine hK.out _ _ ⟨(blk_cell BK330.out 0).trans rfl, (blk_cell BK330.out 1).trans rfl, (blk_cell BK330.out 2).trans rfl, (blk_cell BK330.out 3).trans rfl, (blk_cell BK336.out 0).trans rfl, (blk_cell BK336.out 1).trans rfl, (blk_cell BK336.out 2).trans rfl, (blk_cell BK336.out 3).trans rfl, (blk_cell BK323.out 0).trans rfl, (blk_cell BK323.out 1).trans rfl, (blk_cell BK323.out 2).trans rfl, (blk_cell BK323.out 3).trans rfl⟩ (fun hHeld => ?_)
          clear hK K
          refine norm_ (a' := ?_) ?_ ?_
          rotate_left
          · show Act.put _ (some 43) _ = _
            simp only [Act.put, List.setIfInBounds_toArray, List.set_cons_zero, List.set_cons_succ, i64_w, i32_w]
            rfl
          refine one_ (i := 22) (N := some 45) #[true, true, true, true, true, true, true, true, true, true, true, true, true, true, true, true, true, true, true, true, true, true, true, false, false, false] rfl rfl (one_of HT_.out (by kernel_rfl)) (by decide) (fun K hK => ?_)
          refine goes_ Try.func30 (by kernel_rfl) rfl #[.agg #[.bool a1_0, .bool a1_1, .bool a1_2, .bool a1_3]] (by rfl) rfl rfl (by (try simp only [List.map_toArray, List.map_cons, List.map_nil]); first | done | rfl | (simp only [List.length_drop, List.length_take]; rfl)) ?_
          with_reducible refine (whirligigref02_Ccf.calls a1_0 a1_1 a1_2 a1_3 t349 t350 t351 t352 _ A13.out).mono ?_
          rintro e w32 ⟨rfl, hb⟩
          refine ⟨_, rfl, ?_⟩
          have n0_ := Aside0.mk (blk_below (g := gb323) (o := .cells #[.bool a1_0, .bool a1_1, .bool a1_2, .bool a1_3] 23 (0, 0)) (by (with_reducible repeat (first | refine blk_drewN ?_ _ | refine blk_drew ?_ | refine blk_alloc ?_ _)); exact BK323.out) hb)
          have n1_ := Aside0.mk (blk_below (g := gb330) (o := .cells #[.bool t326, .bool t327, .bool t328, .bool t329] 23 (0, 0)) (by (with_reducible repeat (first | refine blk_drewN ?_ _ | refine blk_drew ?_ | refine blk_alloc ?_ _)); exact BK330.out) hb)
          have n2_ := Aside0.mk (blk_below (g := gb336) (o := .cells #[.bool t332, .bool t333, .bool t334, .bool t335] 23 (0, 0)) (by (with_reducible repeat (first | refine blk_drewN ?_ _ | refine blk_drew ?_ | refine blk_alloc ?_ _)); exact BK336.out) hb)
          have n3_ := Aside0.mk (below_step (by repeat (first | (with_reducible first | exact HB.out | apply below_alloc | apply pw_below_drewN | apply below_drew1 | refine below_set ?_ GE323.out | refine below_set ?_ GE330.out | refine below_set ?_ GE336.out) | exact HB.out)) hb)
          clear BK323
          clear BK330
          clear BK336
          clear HB
          have BK323 := n0_
          have BK330 := n1_
          have BK336 := n2_
          have HB := n3_
          clear n0_ n1_ n2_ n3_
          (try clear hb)
          (try clear hb2)
          (try clear hk)
          (try clear hi)
          refine hK.out _ _ ⟨(blk_cell BK330.out 0).trans rfl, (blk_cell BK330.out 1).trans rfl, (blk_cell BK330.out 2).trans rfl, (blk_cell BK330.out 3).trans rfl, (blk_cell BK336.out 0).trans rfl, (blk_cell BK336.out 1).trans rfl, (blk_cell BK336.out 2).trans rfl, (blk_cell BK336.out 3).trans rfl, (blk_cell BK323.out 0).trans rfl, (blk_cell BK323.out 1).trans rfl, (blk_cell BK323.out 2).trans rfl, (blk_cell BK323.out 3).trans rfl⟩ (fun hHeld => ?_)
          clear hK K
          refine norm_ (a' := ?_) ?_ ?_
          rotate_left
          · show Act.put _ (some 45) _ = _
            simp only [Act.put, List.setIfInBounds_toArray, List.set_cons_zero, List.set_cons_succ, i64_w, i32_w]
            rfl
          refine pure_ (i := 23) (N := some 46) (v := ?_) (a' := ?_) #[true, true, true, true, true, true, true, true, true, true, true, true, true, true, true, true, true, true, true, true, true, true, true, true, false, false] rfl rfl (any_of HT_.out (by kernel_rfl)) (fun _ _ _ h => h) (Or.inl ⟨by rfl, ?_⟩) ?_ ?_
          rotate_left
          · intro w'
            go_simp
            with_reducible rfl
          rotate_left
          · simp only [Act.put, List.setIfInBounds_toArray, List.set_cons_zero, List.set_cons_succ, i64_w, i32_w]
            rfl
          refine pure_ (i := 24) (N := some 47) (v := ?_) (a' := ?_) #[true, true, true, true, true, true, true, true, true, true, true, true, true, true, true, true, true, true, true, true, true, true, true, true, true, false] rfl rfl (any_of HT_.out (by kernel_rfl)) (fun _ _ _ h => h) (Or.inl ⟨by rfl, ?_⟩) ?_ ?_
          rotate_left
          · intro w'
            go_simp
            with_reducible rfl
          rotate_left
          · simp only [Act.put, List.setIfInBounds_toArray, List.set_cons_zero, List.set_cons_succ, i64_w, i32_w]
            rfl
          refine pure_ (i := 25) (N := some 4) (v := ?_) (a' := ?_) #[true, true, true, true, true, true, true, true, true, true, true, true, true, true, true, true, true, true, true, true, true, true, true, true, true, true] rfl rfl (any_of HT_.out (by kernel_rfl)) (fun _ _ _ h => h) (Or.inl ⟨by rfl, ?_⟩) ?_ ?_
          rotate_left
          · intro w'
            go_simp
            with_reducible rfl
          rotate_left
          · simp only [Act.put, List.setIfInBounds_toArray, List.set_cons_zero, List.set_cons_succ, i64_w, i32_w]
            rfl
          refine done_ (done_of HT_.out (by kernel_rfl)) ?_
          try go_wp2
          go_ret
          exact ⟨by first | rfl | (simp [errW_none, errW_some] <;> rfl) | (simp [*, errW_none, errW_some] <;> rfl), by repeat (first | (with_reducible first | exact HB.out | apply below_alloc | apply pw_below_drewN | apply below_drew1 | refine below_set ?_ GE323.out | refine below_set ?_ GE330.out | refine below_set ?_ GE336.out) | exact HB.out)⟩
        · rw [if_neg c11] at H
          have c11b0 : (t337 == t341 && (t338 == t342 && (t339 == t343 && (t340 == t344)))) = false := by simpa using c11
          (try (have c11b1 : decide (t337 = t341 && (t338 == t342 && (t339 == t343 && (t340 == t344)))) = false := by simpa using c11))
          (try (have c11b2 : (t337 == t341 && (t338 == t342 && (t339 == t343 && (t340 == t344)))) = false := by simpa using c11))
          (try (have c11b3 : ¬ (t337 = t341 && (t338 == t342 && (t339 == t343 && (t340 == t344)))) := by simpa using c11))
          clear c11
          exact absurd ((Option.some.inj H).trans HT.out) (by simp)
      · rw [if_neg c8] at H
        have c8b0 : (t326 == t332 && (t327 == t333 && (t328 == t334 && (t329 == t335)))) = false := by simpa using c8
        (try (have c8b1 : decide (t326 = t332 && (t327 == t333 && (t328 == t334 && (t329 == t335)))) = false := by simpa using c8))
        (try (have c8b2 : (t326 == t332 && (t327 == t333 && (t328 == t334 && (t329 == t335)))) = false := by simpa using c8))
        (try (have c8b3 : ¬ (t326 = t332 && (t327 == t333 && (t328 == t334 && (t329 == t335)))) := by simpa using c8))
        clear c8
        exact absurd ((Option.some.inj H).trans HT.out) (by simp)
    · rw [if_neg c7] at H
      have c7b0 : (t325 == t331) = false := beq_eq_false_iff_ne.mpr c7
      have c7b1 : (t325 != t331) = true := bne_iff_ne.mpr c7
      exact absurd ((Option.some.inj H).trans HT.out) (by simp)
  · replace c6 := Bool.eq_false_iff.mpr c6
    subst c6
    have H1 : (some false) = some r := by rw [if_neg (show ¬ (false = true) by decide)] at H; exact H
    clear H
    have H := H1
    clear H1
    exact absurd ((Option.some.inj H).trans HT.out) (by simp)

end Go.Proofs.Ytdfpaebbejdjlaa.G
