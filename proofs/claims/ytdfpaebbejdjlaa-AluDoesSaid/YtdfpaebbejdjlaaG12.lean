/- Written by a program of this session, after the kit's print: Go functions as Lean functions, each with the proof that the Go text comes to it. -/
import Derived.Test.YtdfpaebbejdjlaaG0
import Derived.Test.YtdfpaebbejdjlaaG7
import Derived.Test.YtdfpaebbejdjlaaG11
namespace Go.Proofs.Ytdfpaebbejdjlaa.G
open Go.RowKit Go.Proofs.YtdfpaebbejdjlaaW.PrintWords Go.Proofs.YtdfpaebbejdjlaaW.PrintLast Go.Proofs.YtdfpaebbejdjlaaW.PrintMore
attribute [local go_sem] max2_int min2_int max_two min_two max_three min_three max_four min_four   -- for this text's walks alone
set_option linter.unusedVariables false
set_option linter.unusedSimpArgs false

/-! ### whirligigref02_Do: function 13 -/
mutual
def whirligigref02_Do.j0 : Nat → Int → Int → Int → Int → Bool → Option (Int × Bool × Bool × Bool × Bool)
  | 0, _, _, _, _, _ => none
  | k + 1, x1, x2, x10, x11, x27 => if x27 = true then (whirligigref02_Do.j1 k x1 x2 x10 1) else (whirligigref02_Do.j1 k x1 x2 x10 x11)
def whirligigref02_Do.j1 : Nat → Int → Int → Int → Int → Option (Int × Bool × Bool × Bool × Bool)
  | 0, _, _, _, _ => none
  | k + 1, x1, x2, x10, x11 => if x10 < 2 then (some ((Int.tmod (wrap64 ((wrap64 ((wrap64 (x1)) + (wrap64 (x2)))) + x11)) 256) % 256, ((Int.tmod (wrap64 ((wrap64 ((wrap64 (x1)) + (wrap64 (x2)))) + x11)) 256) == 0), false, decide ((wrap64 ((wrap64 ((Int.tmod (wrap64 (x1)) 16) + (Int.tmod (wrap64 (x2)) 16))) + x11)) > 15), decide ((wrap64 ((wrap64 ((wrap64 (x1)) + (wrap64 (x2)))) + x11)) > 255))) else (if x10 = 2 then (whirligigref02_Do.j2 k x1 x2 x10 x11 true) else (if x10 = 3 then (whirligigref02_Do.j2 k x1 x2 x10 x11 true) else (whirligigref02_Do.j2 k x1 x2 x10 x11 (x10 == 7))))
def whirligigref02_Do.j2 : Nat → Int → Int → Int → Int → Bool → Option (Int × Bool × Bool × Bool × Bool)
  | 0, _, _, _, _, _ => none
  | k + 1, x1, x2, x10, x11, x65 => if x65 = true then (if x10 = 7 then (some (x1, ((Int.tmod (wrap64 ((wrap64 ((wrap64 ((wrap64 (x1)) - (wrap64 (x2)))) - x11)) + 512)) 256) == 0), true, decide ((Int.tmod (wrap64 (x1)) 16) < (wrap64 ((Int.tmod (wrap64 (x2)) 16) + x11))), decide ((wrap64 (x1)) < (wrap64 ((wrap64 (x2)) + x11))))) else (some ((Int.tmod (wrap64 ((wrap64 ((wrap64 ((wrap64 (x1)) - (wrap64 (x2)))) - x11)) + 512)) 256) % 256, ((Int.tmod (wrap64 ((wrap64 ((wrap64 ((wrap64 (x1)) - (wrap64 (x2)))) - x11)) + 512)) 256) == 0), true, decide ((Int.tmod (wrap64 (x1)) 16) < (wrap64 ((Int.tmod (wrap64 (x2)) 16) + x11))), decide ((wrap64 (x1)) < (wrap64 ((wrap64 (x2)) + x11)))))) else ((whirligigref02_each.f k x10 x1 x2).bind fun t197 => (some (t197, (t197 == 0), false, (x10 == 4), false)))
end
def whirligigref02_Do.f (k : Nat) (a0 : Int) (a1 : Int) (a2 : Int) (a3_0 : Bool) (a3_1 : Bool) (a3_2 : Bool) (a3_3 : Bool) : Option (Int × Bool × Bool × Bool × Bool) := (whirligigref02_Op.f a0).bind fun t195 => (if t195 = 1 then (whirligigref02_Do.j0 k a1 a2 t195 0 a3_3) else (if t195 = 3 then (whirligigref02_Do.j0 k a1 a2 t195 0 a3_3) else (whirligigref02_Do.j0 k a1 a2 t195 0 false)))
theorem whirligigref02_Do.mono_l : ∀ k, (∀ y0 y1 y2 y3 y4, LeO (whirligigref02_Do.j0 k y0 y1 y2 y3 y4) (whirligigref02_Do.j0 (k + 1) y0 y1 y2 y3 y4)) ∧ (∀ y0 y1 y2 y3, LeO (whirligigref02_Do.j1 k y0 y1 y2 y3) (whirligigref02_Do.j1 (k + 1) y0 y1 y2 y3)) ∧ (∀ y0 y1 y2 y3 y4, LeO (whirligigref02_Do.j2 k y0 y1 y2 y3 y4) (whirligigref02_Do.j2 (k + 1) y0 y1 y2 y3 y4))
  | 0 => ⟨fun _ _ _ _ _ r h => by simp [whirligigref02_Do.j0] at h, fun _ _ _ _ r h => by simp [whirligigref02_Do.j1] at h, fun _ _ _ _ _ r h => by simp [whirligigref02_Do.j2] at h⟩
  | k + 1 => by
    obtain ⟨ih0, ih1, ih2⟩ := whirligigref02_Do.mono_l k
    refine ⟨?_, ?_, ?_⟩
    · intro y0 y1 y2 y3 y4
      unfold whirligigref02_Do.j0
      repeat' first
      | (with_reducible exact ih0 _ _ _ _ _)
      | (with_reducible exact ih1 _ _ _ _)
      | (with_reducible exact ih2 _ _ _ _ _)
      | (with_reducible exact whirligigref02_each.mono _ _ _ _)
      | (with_reducible exact LeO.refl _)
      | (with_reducible exact LeO.none _)
      | (with_reducible refine LeO.ite ?_ ?_)
      | (with_reducible refine LeO.bind ?_ (fun _ => ?_))
      | exact ih0 _ _ _ _ _
      | exact ih1 _ _ _ _
      | exact ih2 _ _ _ _ _
      | exact whirligigref02_each.mono _ _ _ _
      | exact LeO.none _
      | refine LeO.ite ?_ ?_
      | refine LeO.bind ?_ (fun _ => ?_)
    · intro y0 y1 y2 y3
      unfold whirligigref02_Do.j1
      repeat' first
      | (with_reducible exact ih0 _ _ _ _ _)
      | (with_reducible exact ih1 _ _ _ _)
      | (with_reducible exact ih2 _ _ _ _ _)
      | (with_reducible exact whirligigref02_each.mono _ _ _ _)
      | (with_reducible exact LeO.refl _)
      | (with_reducible exact LeO.none _)
      | (with_reducible refine LeO.ite ?_ ?_)
      | (with_reducible refine LeO.bind ?_ (fun _ => ?_))
      | exact ih0 _ _ _ _ _
      | exact ih1 _ _ _ _
      | exact ih2 _ _ _ _ _
      | exact whirligigref02_each.mono _ _ _ _
      | exact LeO.none _
      | refine LeO.ite ?_ ?_
      | refine LeO.bind ?_ (fun _ => ?_)
    · intro y0 y1 y2 y3 y4
      unfold whirligigref02_Do.j2
      repeat' first
      | (with_reducible exact ih0 _ _ _ _ _)
      | (with_reducible exact ih1 _ _ _ _)
      | (with_reducible exact ih2 _ _ _ _ _)
      | (with_reducible exact whirligigref02_each.mono _ _ _ _)
      | (with_reducible exact LeO.refl _)
      | (with_reducible exact LeO.none _)
      | (with_reducible refine LeO.ite ?_ ?_)
      | (with_reducible refine LeO.bind ?_ (fun _ => ?_))
      | exact ih0 _ _ _ _ _
      | exact ih1 _ _ _ _
      | exact ih2 _ _ _ _ _
      | exact whirligigref02_each.mono _ _ _ _
      | exact LeO.none _
      | refine LeO.ite ?_ ?_
      | refine LeO.bind ?_ (fun _ => ?_)
theorem whirligigref02_Do.mono : ∀ a0 a1 a2 a3 a4 a5 a6 k, LeO (whirligigref02_Do.f k a0 a1 a2 a3 a4 a5 a6) (whirligigref02_Do.f (k + 1) a0 a1 a2 a3 a4 a5 a6) := by
  intro a0 a1 a2 a3 a4 a5 a6 k
  obtain ⟨ih0, ih1, ih2⟩ := whirligigref02_Do.mono_l k
  unfold whirligigref02_Do.f
  repeat' first
      | (with_reducible exact ih0 _ _ _ _ _)
      | (with_reducible exact ih1 _ _ _ _)
      | (with_reducible exact ih2 _ _ _ _ _)
      | (with_reducible exact whirligigref02_each.mono _ _ _ _)
      | (with_reducible exact LeO.refl _)
      | (with_reducible exact LeO.none _)
      | (with_reducible refine LeO.ite ?_ ?_)
      | (with_reducible refine LeO.bind ?_ (fun _ => ?_))
      | exact ih0 _ _ _ _ _
      | exact ih1 _ _ _ _
      | exact ih2 _ _ _ _ _
      | exact whirligigref02_each.mono _ _ _ _
      | exact LeO.none _
      | refine LeO.ite ?_ ?_
      | refine LeO.bind ?_ (fun _ => ?_)
set_option maxHeartbeats 8000000 in
set_option maxRecDepth 100000 in
theorem whirligigref02_Do.calls (k : Nat) (a0 : Int) (a1 : Int) (a2 : Int) (a3_0 : Bool) (a3_1 : Bool) (a3_2 : Bool) (a3_3 : Bool) (r1 : Int) (r2 : Bool) (r3 : Bool) (r4 : Bool) (r5 : Bool) (w : World) (h : whirligigref02_Do.f k a0 a1 a2 a3_0 a3_1 a3_2 a3_3 = some (r1, r2, r3, r4, r5)) :
    Calls Try.prog 13 #[.int .i64 a0, .int .u8 a1, .int .u8 a2, .agg #[.bool a3_0, .bool a3_1, .bool a3_2, .bool a3_3]] w fun e w' => e = .returned (.tuple #[.int .u8 r1, .agg #[.bool r2, .bool r3, .bool r4, .bool r5]]) ∧ Below w.heap.size w w' := by
  have hu23 := Try.underlying23
  have HB := Aside0.mk (Below.refl w.heap.size w)
  have H : ((whirligigref02_Op.f a0).bind fun t195 => (if t195 = 1 then (whirligigref02_Do.j0 k a1 a2 t195 0 a3_3) else (if t195 = 3 then (whirligigref02_Do.j0 k a1 a2 t195 0 a3_3) else (whirligigref02_Do.j0 k a1 a2 t195 0 false)))) = some (r1, r2, r3, r4, r5) := h
  clear h
  replace H := Option.bind_eq_some_iff.mp H
  obtain ⟨t195, A50, H⟩ := H
  replace H : (if t195 = 1 then (whirligigref02_Do.j0 k a1 a2 t195 0 a3_3) else (if t195 = 3 then (whirligigref02_Do.j0 k a1 a2 t195 0 a3_3) else (whirligigref02_Do.j0 k a1 a2 t195 0 false))) = some (r1, r2, r3, r4, r5) := H
  have A5 := Aside0.mk A50
  clear A50
  have HC6 := Aside0.mk H
  clear H
  go_enter Try.func13, Try.ntmps13
  go_upto_region 3 with (first | ((with_reducible refine gate_dst (N := 7) rfl ?_); refine box_event ?hg (N := 7) ?hd (cs := #[.bool a3_0, .bool a3_1, .bool a3_2, .bool a3_3]) (t := 23) ?hr ?_; (case hd => rfl); (case hg => rfl); (case hr => first | (go_simp; done) | (go_simp; rfl)); intro gb193 hg w7 hbox hb; have n0_ := Aside0.mk (below_step (by repeat (first | (with_reducible first | exact HB.out | apply below_alloc | apply pw_below_drewN | apply below_drew1) | exact HB.out)) hb); have n1_ := Aside0.mk (hbox); have n2_ := Aside0.mk ((by rw [hg]; exact (below_size (by repeat (first | (with_reducible first | exact HB.out | apply below_alloc | apply pw_below_drewN | apply below_drew1) | exact HB.out))) : w.heap.size ≤ gb193)); have n3_ := Aside0.mk ((by rw [hg]; exact (below_size (by repeat (first | (with_reducible first | exact HB.out | apply below_alloc | apply pw_below_drewN | apply below_drew1) | exact HB.out))) : w.heap.size ≤ gb193)); clear HB; have HB := n0_; have BK193 := n1_; have GW193 := n2_; have GE193 := n3_; clear n0_ n1_ n2_ n3_; clear hb hbox hg) | ((with_reducible refine gate_dst (N := 9) rfl ?_); refine box_event ?hg (N := 9) ?hd (cs := #[.bool false, .bool false, .bool false, .bool false]) (t := 23) ?hr ?_; (case hd => rfl); (case hg => rfl); (case hr => first | (go_simp; done) | (go_simp; rfl)); intro gb194 hg w8 hbox hb; have n0_ := Aside0.mk (blk_below (g := gb193) (o := .cells #[.bool a3_0, .bool a3_1, .bool a3_2, .bool a3_3] 23 (0, 0)) (by (with_reducible repeat (first | refine blk_drewN ?_ _ | refine blk_drew ?_ | refine blk_alloc ?_ _)); exact BK193.out) hb); have n1_ := Aside0.mk (below_step (by repeat (first | (with_reducible first | exact HB.out | apply below_alloc | apply pw_below_drewN | apply below_drew1 | refine below_set ?_ GE193.out) | exact HB.out)) hb); have n2_ := Aside0.mk (hbox); have n3_ := Aside0.mk ((by rw [hg]; exact (below_size (by repeat (first | (with_reducible first | exact HB.out | apply below_alloc | apply pw_below_drewN | apply below_drew1 | refine below_set ?_ GE193.out) | exact HB.out))) : w.heap.size ≤ gb194)); have n4_ := Aside0.mk ((by rw [hg]; exact (below_size (by repeat (first | (with_reducible first | exact HB.out | apply below_alloc | apply pw_below_drewN | apply below_drew1 | refine below_set ?_ GE193.out) | exact HB.out))) : w.heap.size ≤ gb194)); have n5_ := Aside0.mk ((by rw [hg]; exact Nat.ne_of_lt (blk_lt (g := gb193) (o := .cells #[.bool a3_0, .bool a3_1, .bool a3_2, .bool a3_3] 23 (0, 0)) (by (with_reducible repeat (first | refine blk_drewN ?_ _ | refine blk_drew ?_ | refine blk_alloc ?_ _)); exact BK193.out)) : gb193 ≠ gb194)); have n6_ := Aside0.mk ((by rw [hg]; exact Nat.ne_of_gt (blk_lt (g := gb193) (o := .cells #[.bool a3_0, .bool a3_1, .bool a3_2, .bool a3_3] 23 (0, 0)) (by (with_reducible repeat (first | refine blk_drewN ?_ _ | refine blk_drew ?_ | refine blk_alloc ?_ _)); exact BK193.out)) : gb194 ≠ gb193)); clear BK193; clear HB; have BK193 := n0_; have HB := n1_; have BK194 := n2_; have GW194 := n3_; have GE194 := n4_; have NB193_194 := n5_; have NB194_193 := n6_; clear n0_ n1_ n2_ n3_ n4_ n5_ n6_; clear hb hbox hg) | ((with_reducible refine gate_callee (f := 37) rfl ?_); refine goesL_ (some 17) rfl rfl Try.func37 (by kernel_rfl) rfl #[.int .i64 a0] rfl (by (try simp only [List.map_toArray, List.map_cons, List.map_nil]); first | done | rfl | (simp only [List.length_drop, List.length_take]; rfl)) ?_; (with_reducible refine (whirligigref02_Op.calls a0 t195 _ A5.out).mono ?_); rintro e w' ⟨rfl, ⟨nd, rfl⟩⟩; refine ⟨_, rfl, ?_⟩))
  (try simp only [Act.put, List.setIfInBounds_toArray, List.set_cons_zero, List.set_cons_succ])
  go_cut [27] (fun v27 wc => ∃ (kq : Nat) (x27_5 : Bool), v27 = .bool x27_5 ∧ Aside0 (whirligigref02_Do.j0 kq a1 a2 t195 0 x27_5 = some (r1, r2, r3, r4, r5)) ∧ Aside0 (kq ≤ k) ∧ Aside0 (wc.heap[gb193]? = some (.cells #[.bool a3_0, .bool a3_1, .bool a3_2, .bool a3_3] 23 (0, 0))) ∧ Aside0 (wc.heap[gb194]? = some (.cells #[.bool false, .bool false, .bool false, .bool false] 23 (0, 0))) ∧ Aside0 (Below w.heap.size w wc))
  case first =>
    have H := HC6.out
    clear HC6
    by_cases c9 : t195 = 1
    · rw [if_pos c9] at H
      have c9b0 : (t195 == 1) = true := beq_iff_eq.mpr c9
      have c9b1 : (t195 != 1) = false := bne_eq_false_iff_eq.mpr c9
      clear c9
      (first | rw [c9b0] | (simp only [i64_w, i32_w]; rw [c9b0]) | skip)
      have H' := Aside0.mk H
      clear H
      have hnb10 := NB193_194.out
      have hnc10 := NB194_193.out
      have hcz11_0 : w8.cell? ⟨gb193, 0, none⟩ = some (.bool a3_0) := (blk_cell BK193.out 0).trans rfl
      have hcz11_1 : w8.cell? ⟨gb193, 1, none⟩ = some (.bool a3_1) := (blk_cell BK193.out 1).trans rfl
      have hcz11_2 : w8.cell? ⟨gb193, 2, none⟩ = some (.bool a3_2) := (blk_cell BK193.out 2).trans rfl
      have hcz11_3 : w8.cell? ⟨gb193, 3, none⟩ = some (.bool a3_3) := (blk_cell BK193.out 3).trans rfl
      have hfz11_0 := blk_frozen BK193.out 0
      have hfz11_1 := blk_frozen BK193.out 1
      have hfz11_2 := blk_frozen BK193.out 2
      have hfz11_3 := blk_frozen BK193.out 3
      go_wp2
      go_meet
      case rel => exact ⟨_, (a3_3), (by first | rfl | (simp; done) | (simp [*]; done)), H', ⟨by first | omega | exact Nat.le_refl _⟩, ⟨by (with_reducible repeat (first | refine blk_drewN ?_ _ | refine blk_drew ?_ | refine blk_alloc ?_ _)); exact BK193.out⟩, ⟨by (with_reducible repeat (first | refine blk_drewN ?_ _ | refine blk_drew ?_ | refine blk_alloc ?_ _)); exact BK194.out⟩, ⟨by repeat (first | (with_reducible first | exact HB.out | apply below_alloc | apply pw_below_drewN | apply below_drew1 | refine below_set ?_ GE193.out | refine below_set ?_ GE194.out) | exact HB.out)⟩⟩
    · rw [if_neg c9] at H
      have c9b0 : (t195 == 1) = false := beq_eq_false_iff_ne.mpr c9
      have c9b1 : (t195 != 1) = true := bne_iff_ne.mpr c9
      (first | rw [c9b0] | (simp only [i64_w, i32_w]; rw [c9b0]) | skip)
      by_cases c12 : t195 = 3
      · rw [if_pos c12] at H
        have c12b0 : (t195 == 3) = true := beq_iff_eq.mpr c12
        have c12b1 : (t195 != 3) = false := bne_eq_false_iff_eq.mpr c12
        clear c12
        have H' := Aside0.mk H
        clear H
        have hnb13 := NB193_194.out
        have hnc13 := NB194_193.out
        have hcz14_0 : w8.cell? ⟨gb193, 0, none⟩ = some (.bool a3_0) := (blk_cell BK193.out 0).trans rfl
        have hcz14_1 : w8.cell? ⟨gb193, 1, none⟩ = some (.bool a3_1) := (blk_cell BK193.out 1).trans rfl
        have hcz14_2 : w8.cell? ⟨gb193, 2, none⟩ = some (.bool a3_2) := (blk_cell BK193.out 2).trans rfl
        have hcz14_3 : w8.cell? ⟨gb193, 3, none⟩ = some (.bool a3_3) := (blk_cell BK193.out 3).trans rfl
        have hfz14_0 := blk_frozen BK193.out 0
        have hfz14_1 := blk_frozen BK193.out 1
        have hfz14_2 := blk_frozen BK193.out 2
        have hfz14_3 := blk_frozen BK193.out 3
        go_wp2
        go_meet
        case rel => exact ⟨_, (a3_3), (by first | rfl | (simp; done) | (simp [*]; done)), H', ⟨by first | omega | exact Nat.le_refl _⟩, ⟨by (with_reducible repeat (first | refine blk_drewN ?_ _ | refine blk_drew ?_ | refine blk_alloc ?_ _)); exact BK193.out⟩, ⟨by (with_reducible repeat (first | refine blk_drewN ?_ _ | refine blk_drew ?_ | refine blk_alloc ?_ _)); exact BK194.out⟩, ⟨by repeat (first | (with_reducible first | exact HB.out | apply below_alloc | apply pw_below_drewN | apply below_drew1 | refine below_set ?_ GE193.out | refine below_set ?_ GE194.out) | exact HB.out)⟩⟩
      · rw [if_neg c12] at H
        have c12b0 : (t195 == 3) = false := beq_eq_false_iff_ne.mpr c12
        have c12b1 : (t195 != 3) = true := bne_iff_ne.mpr c12
        have H' := Aside0.mk H
        clear H
        go_wp2
        go_meet
        case rel => exact ⟨_, (false), (by first | rfl | (simp; done) | (simp [*]; done)), H', ⟨by first | omega | exact Nat.le_refl _⟩, ⟨by (with_reducible repeat (first | refine blk_drewN ?_ _ | refine blk_drew ?_ | refine blk_alloc ?_ _)); exact BK193.out⟩, ⟨by (with_reducible repeat (first | refine blk_drewN ?_ _ | refine blk_drew ?_ | refine blk_alloc ?_ _)); exact BK194.out⟩, ⟨by repeat (first | (with_reducible first | exact HB.out | apply below_alloc | apply pw_below_drewN | apply below_drew1 | refine below_set ?_ GE193.out | refine below_set ?_ GE194.out) | exact HB.out)⟩⟩
  case rest =>
    clear HC6
    try clear c1
    try clear p2
    try clear c3
    try clear c9
    try clear c9b0
    try clear c9b1
    try clear c10
    try clear c12
    try clear c12b0
    try clear c12b1
    try clear c13
    try clear hcz11_0
    try clear hcz11_1
    try clear hcz11_2
    try clear hcz11_3
    try clear hcz14_0
    try clear hcz14_1
    try clear hcz14_2
    try clear hcz14_3
    try clear hfz11_0
    try clear hfz11_1
    try clear hfz11_2
    try clear hfz11_3
    try clear hfz14_0
    try clear hfz14_1
    try clear hfz14_2
    try clear hfz14_3
    obtain ⟨kq, x27_5, rfl, HA, HJ5, BK193, BK194, HB⟩ := hcut
    cases kq with
    | zero => exact absurd HA.out (by simp [whirligigref02_Do.j0])
    | succ kj5 =>
      have H := HA.out
      clear HA
      simp only [whirligigref02_Do.j0] at H
      have HC15 := Aside0.mk H
      clear H
      go_upto_if 27 with (fail)
      go_cut [11] (fun v11 wc => ∃ (kq : Nat) (x11_14 : Int), v11 = .int .i64 x11_14 ∧ Aside0 (whirligigref02_Do.j1 kq a1 a2 t195 x11_14 = some (r1, r2, r3, r4, r5)) ∧ Aside0 (kq ≤ kj5) ∧ Aside0 (wc.heap[gb193]? = some (.cells #[.bool a3_0, .bool a3_1, .bool a3_2, .bool a3_3] 23 (0, 0))) ∧ Aside0 (wc.heap[gb194]? = some (.cells #[.bool false, .bool false, .bool false, .bool false] 23 (0, 0))) ∧ Aside0 (Below w.heap.size w wc))
      case first =>
        have H := HC15.out
        clear HC15
        by_cases c16 : x27_5 = true
        · subst c16
          have H1 : (whirligigref02_Do.j1 kj5 a1 a2 t195 1) = some (r1, r2, r3, r4, r5) := by rw [if_pos rfl] at H; exact H
          clear H
          have H := H1
          clear H1
          have H' := Aside0.mk H
          clear H
          go_wp2
          go_meet
          case rel => exact ⟨_, (1), (by first | rfl | (simp; done) | (simp [*]; done)), H', ⟨by have := HJ5.out; first | omega | exact Nat.le_refl _⟩, ⟨by (with_reducible repeat (first | refine blk_drewN ?_ _ | refine blk_drew ?_ | refine blk_alloc ?_ _)); exact BK193.out⟩, ⟨by (with_reducible repeat (first | refine blk_drewN ?_ _ | refine blk_drew ?_ | refine blk_alloc ?_ _)); exact BK194.out⟩, ⟨by repeat (first | (with_reducible first | exact HB.out | apply below_alloc | apply pw_below_drewN | apply below_drew1 | refine below_set ?_ GE193.out | refine below_set ?_ GE194.out) | exact HB.out)⟩⟩
        · replace c16 := Bool.eq_false_iff.mpr c16
          subst c16
          have H1 : (whirligigref02_Do.j1 kj5 a1 a2 t195 0) = some (r1, r2, r3, r4, r5) := by rw [if_neg (show ¬ (false = true) by decide)] at H; exact H
          clear H
          have H := H1
          clear H1
          have H' := Aside0.mk H
          clear H
          go_wp2
          go_meet
          case rel => exact ⟨_, (0), (by first | rfl | (simp; done) | (simp [*]; done)), H', ⟨by have := HJ5.out; first | omega | exact Nat.le_refl _⟩, ⟨by (with_reducible repeat (first | refine blk_drewN ?_ _ | refine blk_drew ?_ | refine blk_alloc ?_ _)); exact BK193.out⟩, ⟨by (with_reducible repeat (first | refine blk_drewN ?_ _ | refine blk_drew ?_ | refine blk_alloc ?_ _)); exact BK194.out⟩, ⟨by repeat (first | (with_reducible first | exact HB.out | apply below_alloc | apply pw_below_drewN | apply below_drew1 | refine below_set ?_ GE193.out | refine below_set ?_ GE194.out) | exact HB.out)⟩⟩
      case rest =>
        clear HC15
        try clear c1
        try clear p2
        try clear c3
        try clear c9
        try clear c9b0
        try clear c9b1
        try clear c10
        try clear c12
        try clear c12b0
        try clear c12b1
        try clear c13
        try clear c16
        try clear hcz11_0
        try clear hcz11_1
        try clear hcz11_2
        try clear hcz11_3
        try clear hcz14_0
        try clear hcz14_1
        try clear hcz14_2
        try clear hcz14_3
        try clear hfz11_0
        try clear hfz11_1
        try clear hfz11_2
        try clear hfz11_3
        try clear hfz14_0
        try clear hfz14_1
        try clear hfz14_2
        try clear hfz14_3
        try clear p2
        obtain ⟨kq, x11_14, rfl, HA, HJ14, BK193, BK194, HB⟩ := hcut
        cases kq with
        | zero => exact absurd HA.out (by simp [whirligigref02_Do.j1])
        | succ kj14 =>
          have H := HA.out
          clear HA
          simp only [whirligigref02_Do.j1] at H
          by_cases c17 : t195 < 2
          · rw [if_pos c17] at H
            have c17b0 : decide (t195 < 2) = true := decide_eq_true c17
            clear c17
            simp only [Option.some.injEq, Prod.mk.injEq] at H
            obtain ⟨rfl, rfl, rfl, rfl, rfl⟩ := H
            have hnb18 := NB194_193.out
            have hnc18 := NB193_194.out
            have hcz19_0 : wc.cell? ⟨gb194, 0, none⟩ = some (.bool false) := (blk_cell BK194.out 0).trans rfl
            have hcz19_1 : wc.cell? ⟨gb194, 1, none⟩ = some (.bool false) := (blk_cell BK194.out 1).trans rfl
            have hcz19_2 : wc.cell? ⟨gb194, 2, none⟩ = some (.bool false) := (blk_cell BK194.out 2).trans rfl
            have hcz19_3 : wc.cell? ⟨gb194, 3, none⟩ = some (.bool false) := (blk_cell BK194.out 3).trans rfl
            have hfz19_0 := blk_frozen BK194.out 0
            have hfz19_1 := blk_frozen BK194.out 1
            have hfz19_2 := blk_frozen BK194.out 2
            have hfz19_3 := blk_frozen BK194.out 3
            go_wp2
            refine bodyPost_ret (results_tc rfl _ _ gb194 23 #[.bool ((Int.tmod (wrap64 ((wrap64 ((wrap64 (a1)) + (wrap64 (a2)))) + x11_14)) 256) == 0), .bool false, .bool (decide ((wrap64 ((wrap64 ((Int.tmod (wrap64 (a1)) 16) + (Int.tmod (wrap64 (a2)) 16))) + x11_14)) > 15)), .bool (decide ((wrap64 ((wrap64 ((wrap64 (a1)) + (wrap64 (a2)))) + x11_14)) > 255))] (0, 0) _ rfl (by (with_reducible repeat (first | refine blk_drewN ?_ _ | refine blk_drew ?_ | refine blk_alloc ?_ _)); refine blk_put (cs := #[.bool ((Int.tmod (wrap64 ((wrap64 ((wrap64 (a1)) + (wrap64 (a2)))) + x11_14)) 256) == 0), .bool false, .bool (decide ((wrap64 ((wrap64 ((Int.tmod (wrap64 (a1)) 16) + (Int.tmod (wrap64 (a2)) 16))) + x11_14)) > 15)), .bool false]) ?_ 3 _ rfl; (with_reducible repeat (first | refine blk_drewN ?_ _ | refine blk_drew ?_ | refine blk_alloc ?_ _)); refine blk_put (cs := #[.bool ((Int.tmod (wrap64 ((wrap64 ((wrap64 (a1)) + (wrap64 (a2)))) + x11_14)) 256) == 0), .bool false, .bool false, .bool false]) ?_ 2 _ rfl; (with_reducible repeat (first | refine blk_drewN ?_ _ | refine blk_drew ?_ | refine blk_alloc ?_ _)); refine blk_put (cs := #[.bool ((Int.tmod (wrap64 ((wrap64 ((wrap64 (a1)) + (wrap64 (a2)))) + x11_14)) 256) == 0), .bool false, .bool false, .bool false]) ?_ 1 _ rfl; (with_reducible repeat (first | refine blk_drewN ?_ _ | refine blk_drew ?_ | refine blk_alloc ?_ _)); refine blk_put (cs := #[.bool false, .bool false, .bool false, .bool false]) ?_ 0 _ rfl; (with_reducible repeat (first | refine blk_drewN ?_ _ | refine blk_drew ?_ | refine blk_alloc ?_ _)); exact BK194.out) Try.underlying23 rfl (by kernel_rfl)) rfl ?_
            exact ⟨by first | rfl | (simp [errW_none, errW_some] <;> rfl) | (simp [*, errW_none, errW_some] <;> rfl), by repeat (first | (with_reducible first | exact HB.out | apply below_alloc | apply pw_below_drewN | apply below_drew1 | refine below_set ?_ GE193.out | refine below_set ?_ GE194.out) | exact HB.out)⟩
          · rw [if_neg c17] at H
            have c17b0 : decide (t195 < 2) = false := decide_eq_false c17
            clear c17
            have HC20 := Aside0.mk H
            clear H
            go_upto_region 8 with (fail)
            go_cut [65] (fun v65 wc => ∃ (kq : Nat) (x65_19 : Bool), v65 = .bool x65_19 ∧ Aside0 (whirligigref02_Do.j2 kq a1 a2 t195 x11_14 x65_19 = some (r1, r2, r3, r4, r5)) ∧ Aside0 (kq ≤ kj14) ∧ Aside0 (wc.heap[gb193]? = some (.cells #[.bool a3_0, .bool a3_1, .bool a3_2, .bool a3_3] 23 (0, 0))) ∧ Aside0 (wc.heap[gb194]? = some (.cells #[.bool false, .bool false, .bool false, .bool false] 23 (0, 0))) ∧ Aside0 (Below w.heap.size w wc))
            case first =>
              have H := HC20.out
              clear HC20
              by_cases c21 : t195 = 2
              · rw [if_pos c21] at H
                have c21b0 : (t195 == 2) = true := beq_iff_eq.mpr c21
                have c21b1 : (t195 != 2) = false := bne_eq_false_iff_eq.mpr c21
                clear c21
                (first | rw [c21b0] | (simp only [i64_w, i32_w]; rw [c21b0]) | skip)
                have H' := Aside0.mk H
                clear H
                go_wp2
                go_meet
                case rel => exact ⟨_, (true), (by first | rfl | (simp; done) | (simp [*]; done)), H', ⟨by have := HJ5.out; have := HJ14.out; first | omega | exact Nat.le_refl _⟩, ⟨by (with_reducible repeat (first | refine blk_drewN ?_ _ | refine blk_drew ?_ | refine blk_alloc ?_ _)); exact BK193.out⟩, ⟨by (with_reducible repeat (first | refine blk_drewN ?_ _ | refine blk_drew ?_ | refine blk_alloc ?_ _)); exact BK194.out⟩, ⟨by repeat (first | (with_reducible first | exact HB.out | apply below_alloc | apply pw_below_drewN | apply below_drew1 | refine below_set ?_ GE193.out | refine below_set ?_ GE194.out) | exact HB.out)⟩⟩
              · rw [if_neg c21] at H
                have c21b0 : (t195 == 2) = false := beq_eq_false_iff_ne.mpr c21
                have c21b1 : (t195 != 2) = true := bne_iff_ne.mpr c21
                (first | rw [c21b0] | (simp only [i64_w, i32_w]; rw [c21b0]) | skip)
                by_cases c22 : t195 = 3
                · rw [if_pos c22] at H
                  have c22b0 : (t195 == 3) = true := beq_iff_eq.mpr c22
                  have c22b1 : (t195 != 3) = false := bne_eq_false_iff_eq.mpr c22
                  clear c22
                  have H' := Aside0.mk H
                  clear H
                  go_wp2
                  go_meet
                  case rel => exact ⟨_, (true), (by first | rfl | (simp; done) | (simp [*]; done)), H', ⟨by have := HJ5.out; have := HJ14.out; first | omega | exact Nat.le_refl _⟩, ⟨by (with_reducible repeat (first | refine blk_drewN ?_ _ | refine blk_drew ?_ | refine blk_alloc ?_ _)); exact BK193.out⟩, ⟨by (with_reducible repeat (first | refine blk_drewN ?_ _ | refine blk_drew ?_ | refine blk_alloc ?_ _)); exact BK194.out⟩, ⟨by repeat (first | (with_reducible first | exact HB.out | apply below_alloc | apply pw_below_drewN | apply below_drew1 | refine below_set ?_ GE193.out | refine below_set ?_ GE194.out) | exact HB.out)⟩⟩
                · rw [if_neg c22] at H
                  have c22b0 : (t195 == 3) = false := beq_eq_false_iff_ne.mpr c22
                  have c22b1 : (t195 != 3) = true := bne_iff_ne.mpr c22
                  have H' := Aside0.mk H
                  clear H
                  go_wp2
                  go_meet
                  case rel => exact ⟨_, ((t195 == 7)), (by first | rfl | (simp; done) | (simp [*]; done)), H', ⟨by have := HJ5.out; have := HJ14.out; first | omega | exact Nat.le_refl _⟩, ⟨by (with_reducible repeat (first | refine blk_drewN ?_ _ | refine blk_drew ?_ | refine blk_alloc ?_ _)); exact BK193.out⟩, ⟨by (with_reducible repeat (first | refine blk_drewN ?_ _ | refine blk_drew ?_ | refine blk_alloc ?_ _)); exact BK194.out⟩, ⟨by repeat (first | (with_reducible first | exact HB.out | apply below_alloc | apply pw_below_drewN | apply below_drew1 | refine below_set ?_ GE193.out | refine below_set ?_ GE194.out) | exact HB.out)⟩⟩
            case rest =>
              clear HC20
              try clear c1
              try clear c2
              try clear p2
              try clear c3
              try clear p6
              try clear c9
              try clear c9b0
              try clear c9b1
              try clear c10
              try clear c12
              try clear c12b0
              try clear c12b1
              try clear c13
              try clear c16
              try clear c17
              try clear c17b0
              try clear c18
              try clear c21
              try clear c21b0
              try clear c21b1
              try clear c22
              try clear c22b0
              try clear c22b1
              try clear hcz11_0
              try clear hcz11_1
              try clear hcz11_2
              try clear hcz11_3
              try clear hcz14_0
              try clear hcz14_1
              try clear hcz14_2
              try clear hcz14_3
              try clear hcz19_0
              try clear hcz19_1
              try clear hcz19_2
              try clear hcz19_3
              try clear hfz11_0
              try clear hfz11_1
              try clear hfz11_2
              try clear hfz11_3
              try clear hfz14_0
              try clear hfz14_1
              try clear hfz14_2
              try clear hfz14_3
              try clear hfz19_0
              try clear hfz19_1
              try clear hfz19_2
              try clear hfz19_3
              try clear p2
              obtain ⟨kq, x65_19, rfl, HA, HJ19, BK193, BK194, HB⟩ := hcut
              cases kq with
              | zero => exact absurd HA.out (by simp [whirligigref02_Do.j2])
              | succ kj19 =>
                have H := HA.out
                clear HA
                simp only [whirligigref02_Do.j2] at H
                by_cases c23 : x65_19 = true
                · subst c23
                  have H1 : (if t195 = 7 then (some (a1, ((Int.tmod (wrap64 ((wrap64 ((wrap64 ((wrap64 (a1)) - (wrap64 (a2)))) - x11_14)) + 512)) 256) == 0), true, decide ((Int.tmod (wrap64 (a1)) 16) < (wrap64 ((Int.tmod (wrap64 (a2)) 16) + x11_14))), decide ((wrap64 (a1)) < (wrap64 ((wrap64 (a2)) + x11_14))))) else (some ((Int.tmod (wrap64 ((wrap64 ((wrap64 ((wrap64 (a1)) - (wrap64 (a2)))) - x11_14)) + 512)) 256) % 256, ((Int.tmod (wrap64 ((wrap64 ((wrap64 ((wrap64 (a1)) - (wrap64 (a2)))) - x11_14)) + 512)) 256) == 0), true, decide ((Int.tmod (wrap64 (a1)) 16) < (wrap64 ((Int.tmod (wrap64 (a2)) 16) + x11_14))), decide ((wrap64 (a1)) < (wrap64 ((wrap64 (a2)) + x11_14)))))) = some (r1, r2, r3, r4, r5) := by rw [if_pos rfl] at H; exact H
                  clear H
                  have H := H1
                  clear H1
                  by_cases c24 : t195 = 7
                  · rw [if_pos c24] at H
                    have c24b0 : (t195 == 7) = true := beq_iff_eq.mpr c24
                    have c24b1 : (t195 != 7) = false := bne_eq_false_iff_eq.mpr c24
                    clear c24
                    simp only [Option.some.injEq, Prod.mk.injEq] at H
                    obtain ⟨rfl, rfl, rfl, rfl, rfl⟩ := H
                    try go_wp2_with (first | ((with_reducible refine gate_dst (N := 14) rfl ?_); refine box_event ?hg (N := 14) ?hd (cs := #[.bool false, .bool false, .bool false, .bool false]) (t := 23) ?hr ?_; (case hd => rfl); (case hg => rfl); (case hr => first | (go_simp; done) | (go_simp; rfl)); intro gb196 hg w25 hbox hb; have n0_ := Aside0.mk (blk_below (g := gb193) (o := .cells #[.bool a3_0, .bool a3_1, .bool a3_2, .bool a3_3] 23 (0, 0)) (by (with_reducible repeat (first | refine blk_drewN ?_ _ | refine blk_drew ?_ | refine blk_alloc ?_ _)); exact BK193.out) hb); have n1_ := Aside0.mk (blk_below (g := gb194) (o := .cells #[.bool false, .bool false, .bool false, .bool false] 23 (0, 0)) (by (with_reducible repeat (first | refine blk_drewN ?_ _ | refine blk_drew ?_ | refine blk_alloc ?_ _)); exact BK194.out) hb); have n2_ := Aside0.mk (below_step (by repeat (first | (with_reducible first | exact HB.out | apply below_alloc | apply pw_below_drewN | apply below_drew1 | refine below_set ?_ GE193.out | refine below_set ?_ GE194.out) | exact HB.out)) hb); have n3_ := Aside0.mk (hbox); have n4_ := Aside0.mk ((by rw [hg]; exact (below_size (by repeat (first | (with_reducible first | exact HB.out | apply below_alloc | apply pw_below_drewN | apply below_drew1 | refine below_set ?_ GE193.out | refine below_set ?_ GE194.out) | exact HB.out))) : w.heap.size ≤ gb196)); have n5_ := Aside0.mk ((by rw [hg]; exact (below_size (by repeat (first | (with_reducible first | exact HB.out | apply below_alloc | apply pw_below_drewN | apply below_drew1 | refine below_set ?_ GE193.out | refine below_set ?_ GE194.out) | exact HB.out))) : w.heap.size ≤ gb196)); have n6_ := Aside0.mk ((by rw [hg]; exact Nat.ne_of_lt (blk_lt (g := gb193) (o := .cells #[.bool a3_0, .bool a3_1, .bool a3_2, .bool a3_3] 23 (0, 0)) (by (with_reducible repeat (first | refine blk_drewN ?_ _ | refine blk_drew ?_ | refine blk_alloc ?_ _)); exact BK193.out)) : gb193 ≠ gb196)); have n7_ := Aside0.mk ((by rw [hg]; exact Nat.ne_of_gt (blk_lt (g := gb193) (o := .cells #[.bool a3_0, .bool a3_1, .bool a3_2, .bool a3_3] 23 (0, 0)) (by (with_reducible repeat (first | refine blk_drewN ?_ _ | refine blk_drew ?_ | refine blk_alloc ?_ _)); exact BK193.out)) : gb196 ≠ gb193)); have n8_ := Aside0.mk ((by rw [hg]; exact Nat.ne_of_lt (blk_lt (g := gb194) (o := .cells #[.bool false, .bool false, .bool false, .bool false] 23 (0, 0)) (by (with_reducible repeat (first | refine blk_drewN ?_ _ | refine blk_drew ?_ | refine blk_alloc ?_ _)); exact BK194.out)) : gb194 ≠ gb196)); have n9_ := Aside0.mk ((by rw [hg]; exact Nat.ne_of_gt (blk_lt (g := gb194) (o := .cells #[.bool false, .bool false, .bool false, .bool false] 23 (0, 0)) (by (with_reducible repeat (first | refine blk_drewN ?_ _ | refine blk_drew ?_ | refine blk_alloc ?_ _)); exact BK194.out)) : gb196 ≠ gb194)); clear BK193; clear BK194; clear HB; have BK193 := n0_; have BK194 := n1_; have HB := n2_; have BK196 := n3_; have GW196 := n4_; have GE196 := n5_; have NB193_196 := n6_; have NB196_193 := n7_; have NB194_196 := n8_; have NB196_194 := n9_; clear n0_ n1_ n2_ n3_ n4_ n5_ n6_ n7_ n8_ n9_; clear hb hbox hg; have hnb26 := NB196_193.out; have hnc26 := NB193_196.out; have hnb27 := NB196_194.out; have hnc27 := NB194_196.out; have hcz28_0 : w25.cell? ⟨gb196, 0, none⟩ = some (.bool false) := (blk_cell BK196.out 0).trans rfl; have hcz28_1 : w25.cell? ⟨gb196, 1, none⟩ = some (.bool false) := (blk_cell BK196.out 1).trans rfl; have hcz28_2 : w25.cell? ⟨gb196, 2, none⟩ = some (.bool false) := (blk_cell BK196.out 2).trans rfl; have hcz28_3 : w25.cell? ⟨gb196, 3, none⟩ = some (.bool false) := (blk_cell BK196.out 3).trans rfl; have hfz28_0 := blk_frozen BK196.out 0; have hfz28_1 := blk_frozen BK196.out 1; have hfz28_2 := blk_frozen BK196.out 2; have hfz28_3 := blk_frozen BK196.out 3))
                    have n0_ : Aside0 (((((w25.setCell ⟨gb196, 0, none⟩ (.bool ((Int.tmod (wrap64 ((wrap64 ((wrap64 ((wrap64 (a1)) - (wrap64 (a2)))) - x11_14)) + 512)) 256) == 0))).setCell ⟨gb196, 1, none⟩ (.bool true)).setCell ⟨gb196, 2, none⟩ (.bool (decide ((Int.tmod (wrap64 (a1)) 16) < (wrap64 ((Int.tmod (wrap64 (a2)) 16) + x11_14)))))).setCell ⟨gb196, 3, none⟩ (.bool (decide ((wrap64 (a1)) < (wrap64 ((wrap64 (a2)) + x11_14)))))).heap[gb193]? = some (.cells #[.bool a3_0, .bool a3_1, .bool a3_2, .bool a3_3] 23 (0, 0))) := ⟨by (with_reducible repeat (first | refine blk_drewN ?_ _ | refine blk_drew ?_ | refine blk_alloc ?_ _)); refine blk_far ?_ NB193_196.out _; (with_reducible repeat (first | refine blk_drewN ?_ _ | refine blk_drew ?_ | refine blk_alloc ?_ _)); refine blk_far ?_ NB193_196.out _; (with_reducible repeat (first | refine blk_drewN ?_ _ | refine blk_drew ?_ | refine blk_alloc ?_ _)); refine blk_far ?_ NB193_196.out _; (with_reducible repeat (first | refine blk_drewN ?_ _ | refine blk_drew ?_ | refine blk_alloc ?_ _)); refine blk_far ?_ NB193_196.out _; (with_reducible repeat (first | refine blk_drewN ?_ _ | refine blk_drew ?_ | refine blk_alloc ?_ _)); exact BK193.out⟩
                    have n1_ : Aside0 (((((w25.setCell ⟨gb196, 0, none⟩ (.bool ((Int.tmod (wrap64 ((wrap64 ((wrap64 ((wrap64 (a1)) - (wrap64 (a2)))) - x11_14)) + 512)) 256) == 0))).setCell ⟨gb196, 1, none⟩ (.bool true)).setCell ⟨gb196, 2, none⟩ (.bool (decide ((Int.tmod (wrap64 (a1)) 16) < (wrap64 ((Int.tmod (wrap64 (a2)) 16) + x11_14)))))).setCell ⟨gb196, 3, none⟩ (.bool (decide ((wrap64 (a1)) < (wrap64 ((wrap64 (a2)) + x11_14)))))).heap[gb194]? = some (.cells #[.bool false, .bool false, .bool false, .bool false] 23 (0, 0))) := ⟨by (with_reducible repeat (first | refine blk_drewN ?_ _ | refine blk_drew ?_ | refine blk_alloc ?_ _)); refine blk_far ?_ NB194_196.out _; (with_reducible repeat (first | refine blk_drewN ?_ _ | refine blk_drew ?_ | refine blk_alloc ?_ _)); refine blk_far ?_ NB194_196.out _; (with_reducible repeat (first | refine blk_drewN ?_ _ | refine blk_drew ?_ | refine blk_alloc ?_ _)); refine blk_far ?_ NB194_196.out _; (with_reducible repeat (first | refine blk_drewN ?_ _ | refine blk_drew ?_ | refine blk_alloc ?_ _)); refine blk_far ?_ NB194_196.out _; (with_reducible repeat (first | refine blk_drewN ?_ _ | refine blk_drew ?_ | refine blk_alloc ?_ _)); exact BK194.out⟩
                    have n2_ : Aside0 (((((w25.setCell ⟨gb196, 0, none⟩ (.bool ((Int.tmod (wrap64 ((wrap64 ((wrap64 ((wrap64 (a1)) - (wrap64 (a2)))) - x11_14)) + 512)) 256) == 0))).setCell ⟨gb196, 1, none⟩ (.bool true)).setCell ⟨gb196, 2, none⟩ (.bool (decide ((Int.tmod (wrap64 (a1)) 16) < (wrap64 ((Int.tmod (wrap64 (a2)) 16) + x11_14)))))).setCell ⟨gb196, 3, none⟩ (.bool (decide ((wrap64 (a1)) < (wrap64 ((wrap64 (a2)) + x11_14)))))).heap[gb196]? = some (.cells #[.bool ((Int.tmod (wrap64 ((wrap64 ((wrap64 ((wrap64 (a1)) - (wrap64 (a2)))) - x11_14)) + 512)) 256) == 0), .bool true, .bool (decide ((Int.tmod (wrap64 (a1)) 16) < (wrap64 ((Int.tmod (wrap64 (a2)) 16) + x11_14)))), .bool (decide ((wrap64 (a1)) < (wrap64 ((wrap64 (a2)) + x11_14))))] 23 (0, 0))) := ⟨by (with_reducible repeat (first | refine blk_drewN ?_ _ | refine blk_drew ?_ | refine blk_alloc ?_ _)); refine blk_put (cs := #[.bool ((Int.tmod (wrap64 ((wrap64 ((wrap64 ((wrap64 (a1)) - (wrap64 (a2)))) - x11_14)) + 512)) 256) == 0), .bool true, .bool (decide ((Int.tmod (wrap64 (a1)) 16) < (wrap64 ((Int.tmod (wrap64 (a2)) 16) + x11_14)))), .bool false]) ?_ 3 _ rfl; (with_reducible repeat (first | refine blk_drewN ?_ _ | refine blk_drew ?_ | refine blk_alloc ?_ _)); refine blk_put (cs := #[.bool ((Int.tmod (wrap64 ((wrap64 ((wrap64 ((wrap64 (a1)) - (wrap64 (a2)))) - x11_14)) + 512)) 256) == 0), .bool true, .bool false, .bool false]) ?_ 2 _ rfl; (with_reducible repeat (first | refine blk_drewN ?_ _ | refine blk_drew ?_ | refine blk_alloc ?_ _)); refine blk_put (cs := #[.bool ((Int.tmod (wrap64 ((wrap64 ((wrap64 ((wrap64 (a1)) - (wrap64 (a2)))) - x11_14)) + 512)) 256) == 0), .bool false, .bool false, .bool false]) ?_ 1 _ rfl; (with_reducible repeat (first | refine blk_drewN ?_ _ | refine blk_drew ?_ | refine blk_alloc ?_ _)); refine blk_put (cs := #[.bool false, .bool false, .bool false, .bool false]) ?_ 0 _ rfl; (with_reducible repeat (first | refine blk_drewN ?_ _ | refine blk_drew ?_ | refine blk_alloc ?_ _)); exact BK196.out⟩
                    have n3_ : Aside0 (Below w.heap.size w ((((w25.setCell ⟨gb196, 0, none⟩ (.bool ((Int.tmod (wrap64 ((wrap64 ((wrap64 ((wrap64 (a1)) - (wrap64 (a2)))) - x11_14)) + 512)) 256) == 0))).setCell ⟨gb196, 1, none⟩ (.bool true)).setCell ⟨gb196, 2, none⟩ (.bool (decide ((Int.tmod (wrap64 (a1)) 16) < (wrap64 ((Int.tmod (wrap64 (a2)) 16) + x11_14)))))).setCell ⟨gb196, 3, none⟩ (.bool (decide ((wrap64 (a1)) < (wrap64 ((wrap64 (a2)) + x11_14))))))) := ⟨by repeat (first | (with_reducible first | exact HB.out | apply below_alloc | apply pw_below_drewN | apply below_drew1 | refine below_set ?_ GE193.out | refine below_set ?_ GE194.out | refine below_set ?_ GE196.out) | exact HB.out)⟩
                    (try clear BK193)
                    (try clear BK194)
                    (try clear BK196)
                    (try clear HB)
                    generalize ((((w25.setCell ⟨gb196, 0, none⟩ (.bool ((Int.tmod (wrap64 ((wrap64 ((wrap64 ((wrap64 (a1)) - (wrap64 (a2)))) - x11_14)) + 512)) 256) == 0))).setCell ⟨gb196, 1, none⟩ (.bool true)).setCell ⟨gb196, 2, none⟩ (.bool (decide ((Int.tmod (wrap64 (a1)) 16) < (wrap64 ((Int.tmod (wrap64 (a2)) 16) + x11_14)))))).setCell ⟨gb196, 3, none⟩ (.bool (decide ((wrap64 (a1)) < (wrap64 ((wrap64 (a2)) + x11_14)))))) = w29 at n0_ n1_ n2_ n3_ ⊢
                    have BK193 := n0_
                    have BK194 := n1_
                    have BK196 := n2_
                    have HB := n3_
                    clear n0_ n1_ n2_ n3_
                    have n0_ := Aside0.mk (blk_drew BK193.out)
                    have n1_ := Aside0.mk (blk_drew BK194.out)
                    have n2_ := Aside0.mk (blk_drew BK196.out)
                    have n3_ := Aside0.mk (below_drew1 HB.out)
                    clear BK193
                    clear BK194
                    clear BK196
                    clear HB
                    have BK193 := n0_
                    have BK194 := n1_
                    have BK196 := n2_
                    have HB := n3_
                    clear n0_ n1_ n2_ n3_
                    refine start_ (n := 4) (S := fun w' => w'.cell? ⟨gb196, 0, none⟩ = some (.bool ((Int.tmod (wrap64 ((wrap64 ((wrap64 ((wrap64 (a1)) - (wrap64 (a2)))) - x11_14)) + 512)) 256) == 0)) ∧ w'.cell? ⟨gb196, 1, none⟩ = some (.bool true) ∧ w'.cell? ⟨gb196, 2, none⟩ = some (.bool (decide ((Int.tmod (wrap64 (a1)) 16) < (wrap64 ((Int.tmod (wrap64 (a2)) 16) + x11_14))))) ∧ w'.cell? ⟨gb196, 3, none⟩ = some (.bool (decide ((wrap64 (a1)) < (wrap64 ((wrap64 (a2)) + x11_14)))))) (ds := []) #[false, false, false, false] (by kernel_rfl) rfl rfl ⟨(blk_cell BK196.out 0).trans rfl, (blk_cell BK196.out 1).trans rfl, (blk_cell BK196.out 2).trans rfl, (blk_cell BK196.out 3).trans rfl⟩ (fun hHeld => ?_)
                    generalize w29.drew = w30 at BK193 BK194 BK196 HB hHeld ⊢
                    refine pure_ (i := 0) (N := some 96) (v := ?_) (a' := ?_) #[true, false, false, false] rfl rfl (by kernel_rfl) (fun _ _ _ h => h) (Or.inl ⟨by rfl, ?_⟩) ?_ ?_
                    rotate_left
                    · intro w'
                      go_simp
                      with_reducible rfl
                    rotate_left
                    · simp only [Act.put, List.setIfInBounds_toArray, List.set_cons_zero, List.set_cons_succ, i64_w, i32_w]
                      rfl
                    refine pure_ (i := 2) (N := some 8) (v := ?_) (a' := ?_) #[true, false, true, false] rfl rfl (by kernel_rfl) (fun _ _ _ h => h) (Or.inl ⟨by rfl, ?_⟩) ?_ ?_
                    rotate_left
                    · intro w'
                      go_simp
                      with_reducible rfl
                    rotate_left
                    · simp only [Act.put, List.setIfInBounds_toArray, List.set_cons_zero, List.set_cons_succ, i64_w, i32_w]
                      rfl
                    refine take_ (i := 1) (N := some 97) (v := ?_) (a' := ?_) #[true, true, true, false] rfl rfl (by kernel_rfl) (fun _ _ _ h => h) (Or.inl ⟨by rfl, ?_⟩) hHeld ?_ ?_
                    rotate_left
                    · rintro w' ⟨s0, s1, s2, s3⟩
                      go_simp
                      with_reducible rfl
                    rotate_left
                    · simp only [Act.put, List.setIfInBounds_toArray, List.set_cons_zero, List.set_cons_succ, i64_w, i32_w]
                      rfl
                    refine one_ (i := 3) (N := none) #[true, true, true, true] rfl rfl (by kernel_rfl) (by decide) (fun K hK => ?_)
                    have hs31 : w30.cell? ⟨gb194, 0, none⟩ = some (.bool false) := (blk_cell BK194.out 0).trans rfl
                    have hfs31 := blk_frozen BK194.out 0
                    have hns31_0 := NB193_194.out
                    have hns31_2 := NB196_194.out
                    have hms31_0 := NB194_193.out
                    have hms31_2 := NB194_196.out
                    have hs32 : w30.cell? ⟨gb194, 1, none⟩ = some (.bool false) := (blk_cell BK194.out 1).trans rfl
                    have hfs32 := blk_frozen BK194.out 1
                    have hns32_0 := NB193_194.out
                    have hns32_2 := NB196_194.out
                    have hms32_0 := NB194_193.out
                    have hms32_2 := NB194_196.out
                    have hs33 : w30.cell? ⟨gb194, 2, none⟩ = some (.bool false) := (blk_cell BK194.out 2).trans rfl
                    have hfs33 := blk_frozen BK194.out 2
                    have hns33_0 := NB193_194.out
                    have hns33_2 := NB196_194.out
                    have hms33_0 := NB194_193.out
                    have hms33_2 := NB194_196.out
                    have hs34 : w30.cell? ⟨gb194, 3, none⟩ = some (.bool false) := (blk_cell BK194.out 3).trans rfl
                    have hfs34 := blk_frozen BK194.out 3
                    have hns34_0 := NB193_194.out
                    have hns34_2 := NB196_194.out
                    have hms34_0 := NB194_193.out
                    have hms34_2 := NB194_196.out
                    refine skip_ (w1 := ?_) (by rfl) rfl ?_ ?_
                    rotate_left
                    · go_simp
                      rfl
                    refine hK.out _ _ ⟨((cell_far (p := ⟨gb194, _, none⟩) NB196_194.out _).trans (((cell_far (p := ⟨gb194, _, none⟩) NB196_194.out _).trans (((cell_far (p := ⟨gb194, _, none⟩) NB196_194.out _).trans (((cell_far (p := ⟨gb194, _, none⟩) NB196_194.out _).trans (hHeld.1)))))))), ((cell_far (p := ⟨gb194, _, none⟩) NB196_194.out _).trans (((cell_far (p := ⟨gb194, _, none⟩) NB196_194.out _).trans (((cell_far (p := ⟨gb194, _, none⟩) NB196_194.out _).trans (((cell_far (p := ⟨gb194, _, none⟩) NB196_194.out _).trans (hHeld.2.1)))))))), ((cell_far (p := ⟨gb194, _, none⟩) NB196_194.out _).trans (((cell_far (p := ⟨gb194, _, none⟩) NB196_194.out _).trans (((cell_far (p := ⟨gb194, _, none⟩) NB196_194.out _).trans (((cell_far (p := ⟨gb194, _, none⟩) NB196_194.out _).trans (hHeld.2.2.1)))))))), ((cell_far (p := ⟨gb194, _, none⟩) NB196_194.out _).trans (((cell_far (p := ⟨gb194, _, none⟩) NB196_194.out _).trans (((cell_far (p := ⟨gb194, _, none⟩) NB196_194.out _).trans (((cell_far (p := ⟨gb194, _, none⟩) NB196_194.out _).trans (hHeld.2.2.2))))))))⟩ (fun hHeld => ?_)
                    clear hK K
                    refine done_ (by kernel_rfl) ?_
                    try go_wp2
                    refine bodyPost_ret (results_tc rfl _ _ gb194 23 #[.bool ((Int.tmod (wrap64 ((wrap64 ((wrap64 ((wrap64 (a1)) - (wrap64 (a2)))) - x11_14)) + 512)) 256) == 0), .bool true, .bool (decide ((Int.tmod (wrap64 (a1)) 16) < (wrap64 ((Int.tmod (wrap64 (a2)) 16) + x11_14)))), .bool (decide ((wrap64 (a1)) < (wrap64 ((wrap64 (a2)) + x11_14))))] (0, 0) _ rfl (by (with_reducible repeat (first | refine blk_drewN ?_ _ | refine blk_drew ?_ | refine blk_alloc ?_ _)); refine blk_put (cs := #[.bool ((Int.tmod (wrap64 ((wrap64 ((wrap64 ((wrap64 (a1)) - (wrap64 (a2)))) - x11_14)) + 512)) 256) == 0), .bool true, .bool (decide ((Int.tmod (wrap64 (a1)) 16) < (wrap64 ((Int.tmod (wrap64 (a2)) 16) + x11_14)))), .bool false]) ?_ 3 _ rfl; (with_reducible repeat (first | refine blk_drewN ?_ _ | refine blk_drew ?_ | refine blk_alloc ?_ _)); refine blk_put (cs := #[.bool ((Int.tmod (wrap64 ((wrap64 ((wrap64 ((wrap64 (a1)) - (wrap64 (a2)))) - x11_14)) + 512)) 256) == 0), .bool true, .bool false, .bool false]) ?_ 2 _ rfl; (with_reducible repeat (first | refine blk_drewN ?_ _ | refine blk_drew ?_ | refine blk_alloc ?_ _)); refine blk_put (cs := #[.bool ((Int.tmod (wrap64 ((wrap64 ((wrap64 ((wrap64 (a1)) - (wrap64 (a2)))) - x11_14)) + 512)) 256) == 0), .bool false, .bool false, .bool false]) ?_ 1 _ rfl; (with_reducible repeat (first | refine blk_drewN ?_ _ | refine blk_drew ?_ | refine blk_alloc ?_ _)); refine blk_put (cs := #[.bool false, .bool false, .bool false, .bool false]) ?_ 0 _ rfl; (with_reducible repeat (first | refine blk_drewN ?_ _ | refine blk_drew ?_ | refine blk_alloc ?_ _)); exact BK194.out) Try.underlying23 rfl (by kernel_rfl)) rfl ?_
                    exact ⟨by first | rfl | (simp [errW_none, errW_some] <;> rfl) | (simp [*, errW_none, errW_some] <;> rfl), by repeat (first | (with_reducible first | exact HB.out | apply below_alloc | apply pw_below_drewN | apply below_drew1 | refine below_set ?_ GE193.out | refine below_set ?_ GE194.out | refine below_set ?_ GE196.out) | exact HB.out)⟩
                  · rw [if_neg c24] at H
                    have c24b0 : (t195 == 7) = false := beq_eq_false_iff_ne.mpr c24
                    have c24b1 : (t195 != 7) = true := bne_iff_ne.mpr c24
                    simp only [Option.some.injEq, Prod.mk.injEq] at H
                    obtain ⟨rfl, rfl, rfl, rfl, rfl⟩ := H
                    try go_wp2_with (first | ((with_reducible refine gate_dst (N := 14) rfl ?_); refine box_event ?hg (N := 14) ?hd (cs := #[.bool false, .bool false, .bool false, .bool false]) (t := 23) ?hr ?_; (case hd => rfl); (case hg => rfl); (case hr => first | (go_simp; done) | (go_simp; rfl)); intro gb196 hg w35 hbox hb; have n0_ := Aside0.mk (blk_below (g := gb193) (o := .cells #[.bool a3_0, .bool a3_1, .bool a3_2, .bool a3_3] 23 (0, 0)) (by (with_reducible repeat (first | refine blk_drewN ?_ _ | refine blk_drew ?_ | refine blk_alloc ?_ _)); exact BK193.out) hb); have n1_ := Aside0.mk (blk_below (g := gb194) (o := .cells #[.bool false, .bool false, .bool false, .bool false] 23 (0, 0)) (by (with_reducible repeat (first | refine blk_drewN ?_ _ | refine blk_drew ?_ | refine blk_alloc ?_ _)); exact BK194.out) hb); have n2_ := Aside0.mk (below_step (by repeat (first | (with_reducible first | exact HB.out | apply below_alloc | apply pw_below_drewN | apply below_drew1 | refine below_set ?_ GE193.out | refine below_set ?_ GE194.out) | exact HB.out)) hb); have n3_ := Aside0.mk (hbox); have n4_ := Aside0.mk ((by rw [hg]; exact (below_size (by repeat (first | (with_reducible first | exact HB.out | apply below_alloc | apply pw_below_drewN | apply below_drew1 | refine below_set ?_ GE193.out | refine below_set ?_ GE194.out) | exact HB.out))) : w.heap.size ≤ gb196)); have n5_ := Aside0.mk ((by rw [hg]; exact (below_size (by repeat (first | (with_reducible first | exact HB.out | apply below_alloc | apply pw_below_drewN | apply below_drew1 | refine below_set ?_ GE193.out | refine below_set ?_ GE194.out) | exact HB.out))) : w.heap.size ≤ gb196)); have n6_ := Aside0.mk ((by rw [hg]; exact Nat.ne_of_lt (blk_lt (g := gb193) (o := .cells #[.bool a3_0, .bool a3_1, .bool a3_2, .bool a3_3] 23 (0, 0)) (by (with_reducible repeat (first | refine blk_drewN ?_ _ | refine blk_drew ?_ | refine blk_alloc ?_ _)); exact BK193.out)) : gb193 ≠ gb196)); have n7_ := Aside0.mk ((by rw [hg]; exact Nat.ne_of_gt (blk_lt (g := gb193) (o := .cells #[.bool a3_0, .bool a3_1, .bool a3_2, .bool a3_3] 23 (0, 0)) (by (with_reducible repeat (first | refine blk_drewN ?_ _ | refine blk_drew ?_ | refine blk_alloc ?_ _)); exact BK193.out)) : gb196 ≠ gb193)); have n8_ := Aside0.mk ((by rw [hg]; exact Nat.ne_of_lt (blk_lt (g := gb194) (o := .cells #[.bool false, .bool false, .bool false, .bool false] 23 (0, 0)) (by (with_reducible repeat (first | refine blk_drewN ?_ _ | refine blk_drew ?_ | refine blk_alloc ?_ _)); exact BK194.out)) : gb194 ≠ gb196)); have n9_ := Aside0.mk ((by rw [hg]; exact Nat.ne_of_gt (blk_lt (g := gb194) (o := .cells #[.bool false, .bool false, .bool false, .bool false] 23 (0, 0)) (by (with_reducible repeat (first | refine blk_drewN ?_ _ | refine blk_drew ?_ | refine blk_alloc ?_ _)); exact BK194.out)) : gb196 ≠ gb194)); clear BK193; clear BK194; clear HB; have BK193 := n0_; have BK194 := n1_; have HB := n2_; have BK196 := n3_; have GW196 := n4_; have GE196 := n5_; have NB193_196 := n6_; have NB196_193 := n7_; have NB194_196 := n8_; have NB196_194 := n9_; clear n0_ n1_ n2_ n3_ n4_ n5_ n6_ n7_ n8_ n9_; clear hb hbox hg; have hnb36 := NB196_193.out; have hnc36 := NB193_196.out; have hnb37 := NB196_194.out; have hnc37 := NB194_196.out; have hcz38_0 : w35.cell? ⟨gb196, 0, none⟩ = some (.bool false) := (blk_cell BK196.out 0).trans rfl; have hcz38_1 : w35.cell? ⟨gb196, 1, none⟩ = some (.bool false) := (blk_cell BK196.out 1).trans rfl; have hcz38_2 : w35.cell? ⟨gb196, 2, none⟩ = some (.bool false) := (blk_cell BK196.out 2).trans rfl; have hcz38_3 : w35.cell? ⟨gb196, 3, none⟩ = some (.bool false) := (blk_cell BK196.out 3).trans rfl; have hfz38_0 := blk_frozen BK196.out 0; have hfz38_1 := blk_frozen BK196.out 1; have hfz38_2 := blk_frozen BK196.out 2; have hfz38_3 := blk_frozen BK196.out 3))
                    have n0_ : Aside0 (((((w35.setCell ⟨gb196, 0, none⟩ (.bool ((Int.tmod (wrap64 ((wrap64 ((wrap64 ((wrap64 (a1)) - (wrap64 (a2)))) - x11_14)) + 512)) 256) == 0))).setCell ⟨gb196, 1, none⟩ (.bool true)).setCell ⟨gb196, 2, none⟩ (.bool (decide ((Int.tmod (wrap64 (a1)) 16) < (wrap64 ((Int.tmod (wrap64 (a2)) 16) + x11_14)))))).setCell ⟨gb196, 3, none⟩ (.bool (decide ((wrap64 (a1)) < (wrap64 ((wrap64 (a2)) + x11_14)))))).heap[gb193]? = some (.cells #[.bool a3_0, .bool a3_1, .bool a3_2, .bool a3_3] 23 (0, 0))) := ⟨by (with_reducible repeat (first | refine blk_drewN ?_ _ | refine blk_drew ?_ | refine blk_alloc ?_ _)); refine blk_far ?_ NB193_196.out _; (with_reducible repeat (first | refine blk_drewN ?_ _ | refine blk_drew ?_ | refine blk_alloc ?_ _)); refine blk_far ?_ NB193_196.out _; (with_reducible repeat (first | refine blk_drewN ?_ _ | refine blk_drew ?_ | refine blk_alloc ?_ _)); refine blk_far ?_ NB193_196.out _; (with_reducible repeat (first | refine blk_drewN ?_ _ | refine blk_drew ?_ | refine blk_alloc ?_ _)); refine blk_far ?_ NB193_196.out _; (with_reducible repeat (first | refine blk_drewN ?_ _ | refine blk_drew ?_ | refine blk_alloc ?_ _)); exact BK193.out⟩
                    have n1_ : Aside0 (((((w35.setCell ⟨gb196, 0, none⟩ (.bool ((Int.tmod (wrap64 ((wrap64 ((wrap64 ((wrap64 (a1)) - (wrap64 (a2)))) - x11_14)) + 512)) 256) == 0))).setCell ⟨gb196, 1, none⟩ (.bool true)).setCell ⟨gb196, 2, none⟩ (.bool (decide ((Int.tmod (wrap64 (a1)) 16) < (wrap64 ((Int.tmod (wrap64 (a2)) 16) + x11_14)))))).setCell ⟨gb196, 3, none⟩ (.bool (decide ((wrap64 (a1)) < (wrap64 ((wrap64 (a2)) + x11_14)))))).heap[gb194]? = some (.cells #[.bool false, .bool false, .bool false, .bool false] 23 (0, 0))) := ⟨by (with_reducible repeat (first | refine blk_drewN ?_ _ | refine blk_drew ?_ | refine blk_alloc ?_ _)); refine blk_far ?_ NB194_196.out _; (with_reducible repeat (first | refine blk_drewN ?_ _ | refine blk_drew ?_ | refine blk_alloc ?_ _)); refine blk_far ?_ NB194_196.out _; (with_reducible repeat (first | refine blk_drewN ?_ _ | refine blk_drew ?_ | refine blk_alloc ?_ _)); refine blk_far ?_ NB194_196.out _; (with_reducible repeat (first | refine blk_drewN ?_ _ | refine blk_drew ?_ | refine blk_alloc ?_ _)); refine blk_far ?_ NB194_196.out _; (with_reducible repeat (first | refine blk_drewN ?_ _ | refine blk_drew ?_ | refine blk_alloc ?_ _)); exact BK194.out⟩
                    have n2_ : Aside0 (((((w35.setCell ⟨gb196, 0, none⟩ (.bool ((Int.tmod (wrap64 ((wrap64 ((wrap64 ((wrap64 (a1)) - (wrap64 (a2)))) - x11_14)) + 512)) 256) == 0))).setCell ⟨gb196, 1, none⟩ (.bool true)).setCell ⟨gb196, 2, none⟩ (.bool (decide ((Int.tmod (wrap64 (a1)) 16) < (wrap64 ((Int.tmod (wrap64 (a2)) 16) + x11_14)))))).setCell ⟨gb196, 3, none⟩ (.bool (decide ((wrap64 (a1)) < (wrap64 ((wrap64 (a2)) + x11_14)))))).heap[gb196]? = some (.cells #[.bool ((Int.tmod (wrap64 ((wrap64 ((wrap64 ((wrap64 (a1)) - (wrap64 (a2)))) - x11_14)) + 512)) 256) == 0), .bool true, .bool (decide ((Int.tmod (wrap64 (a1)) 16) < (wrap64 ((Int.tmod (wrap64 (a2)) 16) + x11_14)))), .bool (decide ((wrap64 (a1)) < (wrap64 ((wrap64 (a2)) + x11_14))))] 23 (0, 0))) := ⟨by (with_reducible repeat (first | refine blk_drewN ?_ _ | refine blk_drew ?_ | refine blk_alloc ?_ _)); refine blk_put (cs := #[.bool ((Int.tmod (wrap64 ((wrap64 ((wrap64 ((wrap64 (a1)) - (wrap64 (a2)))) - x11_14)) + 512)) 256) == 0), .bool true, .bool (decide ((Int.tmod (wrap64 (a1)) 16) < (wrap64 ((Int.tmod (wrap64 (a2)) 16) + x11_14)))), .bool false]) ?_ 3 _ rfl; (with_reducible repeat (first | refine blk_drewN ?_ _ | refine blk_drew ?_ | refine blk_alloc ?_ _)); refine blk_put (cs := #[.bool ((Int.tmod (wrap64 ((wrap64 ((wrap64 ((wrap64 (a1)) - (wrap64 (a2)))) - x11_14)) + 512)) 256) == 0), .bool true, .bool false, .bool false]) ?_ 2 _ rfl; (with_reducible repeat (first | refine blk_drewN ?_ _ | refine blk_drew ?_ | refine blk_alloc ?_ _)); refine blk_put (cs := #[.bool ((Int.tmod (wrap64 ((wrap64 ((wrap64 ((wrap64 (a1)) - (wrap64 (a2)))) - x11_14)) + 512)) 256) == 0), .bool false, .bool false, .bool false]) ?_ 1 _ rfl; (with_reducible repeat (first | refine blk_drewN ?_ _ | refine blk_drew ?_ | refine blk_alloc ?_ _)); refine blk_put (cs := #[.bool false, .bool false, .bool false, .bool false]) ?_ 0 _ rfl; (with_reducible repeat (first | refine blk_drewN ?_ _ | refine blk_drew ?_ | refine blk_alloc ?_ _)); exact BK196.out⟩
                    have n3_ : Aside0 (Below w.heap.size w ((((w35.setCell ⟨gb196, 0, none⟩ (.bool ((Int.tmod (wrap64 ((wrap64 ((wrap64 ((wrap64 (a1)) - (wrap64 (a2)))) - x11_14)) + 512)) 256) == 0))).setCell ⟨gb196, 1, none⟩ (.bool true)).setCell ⟨gb196, 2, none⟩ (.bool (decide ((Int.tmod (wrap64 (a1)) 16) < (wrap64 ((Int.tmod (wrap64 (a2)) 16) + x11_14)))))).setCell ⟨gb196, 3, none⟩ (.bool (decide ((wrap64 (a1)) < (wrap64 ((wrap64 (a2)) + x11_14))))))) := ⟨by repeat (first | (with_reducible first | exact HB.out | apply below_alloc | apply pw_below_drewN | apply below_drew1 | refine below_set ?_ GE193.out | refine below_set ?_ GE194.out | refine below_set ?_ GE196.out) | exact HB.out)⟩
                    (try clear BK193)
                    (try clear BK194)
                    (try clear BK196)
                    (try clear HB)
                    generalize ((((w35.setCell ⟨gb196, 0, none⟩ (.bool ((Int.tmod (wrap64 ((wrap64 ((wrap64 ((wrap64 (a1)) - (wrap64 (a2)))) - x11_14)) + 512)) 256) == 0))).setCell ⟨gb196, 1, none⟩ (.bool true)).setCell ⟨gb196, 2, none⟩ (.bool (decide ((Int.tmod (wrap64 (a1)) 16) < (wrap64 ((Int.tmod (wrap64 (a2)) 16) + x11_14)))))).setCell ⟨gb196, 3, none⟩ (.bool (decide ((wrap64 (a1)) < (wrap64 ((wrap64 (a2)) + x11_14)))))) = w39 at n0_ n1_ n2_ n3_ ⊢
                    have BK193 := n0_
                    have BK194 := n1_
                    have BK196 := n2_
                    have HB := n3_
                    clear n0_ n1_ n2_ n3_
                    have n0_ := Aside0.mk (blk_drew BK193.out)
                    have n1_ := Aside0.mk (blk_drew BK194.out)
                    have n2_ := Aside0.mk (blk_drew BK196.out)
                    have n3_ := Aside0.mk (below_drew1 HB.out)
                    clear BK193
                    clear BK194
                    clear BK196
                    clear HB
                    have BK193 := n0_
                    have BK194 := n1_
                    have BK196 := n2_
                    have HB := n3_
                    clear n0_ n1_ n2_ n3_
                    refine start_ (n := 5) (S := fun w' => w'.cell? ⟨gb196, 0, none⟩ = some (.bool ((Int.tmod (wrap64 ((wrap64 ((wrap64 ((wrap64 (a1)) - (wrap64 (a2)))) - x11_14)) + 512)) 256) == 0)) ∧ w'.cell? ⟨gb196, 1, none⟩ = some (.bool true) ∧ w'.cell? ⟨gb196, 2, none⟩ = some (.bool (decide ((Int.tmod (wrap64 (a1)) 16) < (wrap64 ((Int.tmod (wrap64 (a2)) 16) + x11_14))))) ∧ w'.cell? ⟨gb196, 3, none⟩ = some (.bool (decide ((wrap64 (a1)) < (wrap64 ((wrap64 (a2)) + x11_14)))))) (ds := []) #[false, false, false, false, false] (by kernel_rfl) rfl rfl ⟨(blk_cell BK196.out 0).trans rfl, (blk_cell BK196.out 1).trans rfl, (blk_cell BK196.out 2).trans rfl, (blk_cell BK196.out 3).trans rfl⟩ (fun hHeld => ?_)
                    generalize w39.drew = w40 at BK193 BK194 BK196 HB hHeld ⊢
                    refine pure_ (i := 0) (N := some 98) (v := ?_) (a' := ?_) #[true, false, false, false, false] rfl rfl (by kernel_rfl) (fun _ _ _ h => h) (Or.inl ⟨by rfl, ?_⟩) ?_ ?_
                    rotate_left
                    · intro w'
                      go_simp
                      with_reducible rfl
                    rotate_left
                    · simp only [Act.put, List.setIfInBounds_toArray, List.set_cons_zero, List.set_cons_succ, i64_w, i32_w]
                      rfl
                    refine pure_ (i := 1) (N := some 99) (v := ?_) (a' := ?_) #[true, true, false, false, false] rfl rfl (by kernel_rfl) (fun _ _ _ h => h) (Or.inl ⟨by rfl, ?_⟩) ?_ ?_
                    rotate_left
                    · intro w'
                      go_simp
                      with_reducible rfl
                    rotate_left
                    · simp only [Act.put, List.setIfInBounds_toArray, List.set_cons_zero, List.set_cons_succ, i64_w, i32_w]
                      rfl
                    refine pure_ (i := 3) (N := some 8) (v := ?_) (a' := ?_) #[true, true, false, true, false] rfl rfl (by kernel_rfl) (fun _ _ _ h => h) (Or.inl ⟨by rfl, ?_⟩) ?_ ?_
                    rotate_left
                    · intro w'
                      go_simp
                      with_reducible rfl
                    rotate_left
                    · simp only [Act.put, List.setIfInBounds_toArray, List.set_cons_zero, List.set_cons_succ, i64_w, i32_w]
                      rfl
                    refine take_ (i := 2) (N := some 100) (v := ?_) (a' := ?_) #[true, true, true, true, false] rfl rfl (by kernel_rfl) (fun _ _ _ h => h) (Or.inl ⟨by rfl, ?_⟩) hHeld ?_ ?_
                    rotate_left
                    · rintro w' ⟨s0, s1, s2, s3⟩
                      go_simp
                      with_reducible rfl
                    rotate_left
                    · simp only [Act.put, List.setIfInBounds_toArray, List.set_cons_zero, List.set_cons_succ, i64_w, i32_w]
                      rfl
                    refine one_ (i := 4) (N := none) #[true, true, true, true, true] rfl rfl (by kernel_rfl) (by decide) (fun K hK => ?_)
                    have hs41 : w40.cell? ⟨gb194, 0, none⟩ = some (.bool false) := (blk_cell BK194.out 0).trans rfl
                    have hfs41 := blk_frozen BK194.out 0
                    have hns41_0 := NB193_194.out
                    have hns41_2 := NB196_194.out
                    have hms41_0 := NB194_193.out
                    have hms41_2 := NB194_196.out
                    have hs42 : w40.cell? ⟨gb194, 1, none⟩ = some (.bool false) := (blk_cell BK194.out 1).trans rfl
                    have hfs42 := blk_frozen BK194.out 1
                    have hns42_0 := NB193_194.out
                    have hns42_2 := NB196_194.out
                    have hms42_0 := NB194_193.out
                    have hms42_2 := NB194_196.out
                    have hs43 : w40.cell? ⟨gb194, 2, none⟩ = some (.bool false) := (blk_cell BK194.out 2).trans rfl
                    have hfs43 := blk_frozen BK194.out 2
                    have hns43_0 := NB193_194.out
                    have hns43_2 := NB196_194.out
                    have hms43_0 := NB194_193.out
                    have hms43_2 := NB194_196.out
                    have hs44 : w40.cell? ⟨gb194, 3, none⟩ = some (.bool false) := (blk_cell BK194.out 3).trans rfl
                    have hfs44 := blk_frozen BK194.out 3
                    have hns44_0 := NB193_194.out
                    have hns44_2 := NB196_194.out
                    have hms44_0 := NB194_193.out
                    have hms44_2 := NB194_196.out
                    refine skip_ (w1 := ?_) (by rfl) rfl ?_ ?_
                    rotate_left
                    · go_simp
                      rfl
                    refine hK.out _ _ ⟨((cell_far (p := ⟨gb194, _, none⟩) NB196_194.out _).trans (((cell_far (p := ⟨gb194, _, none⟩) NB196_194.out _).trans (((cell_far (p := ⟨gb194, _, none⟩) NB196_194.out _).trans (((cell_far (p := ⟨gb194, _, none⟩) NB196_194.out _).trans (hHeld.1)))))))), ((cell_far (p := ⟨gb194, _, none⟩) NB196_194.out _).trans (((cell_far (p := ⟨gb194, _, none⟩) NB196_194.out _).trans (((cell_far (p := ⟨gb194, _, none⟩) NB196_194.out _).trans (((cell_far (p := ⟨gb194, _, none⟩) NB196_194.out _).trans (hHeld.2.1)))))))), ((cell_far (p := ⟨gb194, _, none⟩) NB196_194.out _).trans (((cell_far (p := ⟨gb194, _, none⟩) NB196_194.out _).trans (((cell_far (p := ⟨gb194, _, none⟩) NB196_194.out _).trans (((cell_far (p := ⟨gb194, _, none⟩) NB196_194.out _).trans (hHeld.2.2.1)))))))), ((cell_far (p := ⟨gb194, _, none⟩) NB196_194.out _).trans (((cell_far (p := ⟨gb194, _, none⟩) NB196_194.out _).trans (((cell_far (p := ⟨gb194, _, none⟩) NB196_194.out _).trans (((cell_far (p := ⟨gb194, _, none⟩) NB196_194.out _).trans (hHeld.2.2.2))))))))⟩ (fun hHeld => ?_)
                    clear hK K
                    refine done_ (by kernel_rfl) ?_
                    try go_wp2
                    refine bodyPost_ret (results_tc rfl _ _ gb194 23 #[.bool ((Int.tmod (wrap64 ((wrap64 ((wrap64 ((wrap64 (a1)) - (wrap64 (a2)))) - x11_14)) + 512)) 256) == 0), .bool true, .bool (decide ((Int.tmod (wrap64 (a1)) 16) < (wrap64 ((Int.tmod (wrap64 (a2)) 16) + x11_14)))), .bool (decide ((wrap64 (a1)) < (wrap64 ((wrap64 (a2)) + x11_14))))] (0, 0) _ rfl (by (with_reducible repeat (first | refine blk_drewN ?_ _ | refine blk_drew ?_ | refine blk_alloc ?_ _)); refine blk_put (cs := #[.bool ((Int.tmod (wrap64 ((wrap64 ((wrap64 ((wrap64 (a1)) - (wrap64 (a2)))) - x11_14)) + 512)) 256) == 0), .bool true, .bool (decide ((Int.tmod (wrap64 (a1)) 16) < (wrap64 ((Int.tmod (wrap64 (a2)) 16) + x11_14)))), .bool false]) ?_ 3 _ rfl; (with_reducible repeat (first | refine blk_drewN ?_ _ | refine blk_drew ?_ | refine blk_alloc ?_ _)); refine blk_put (cs := #[.bool ((Int.tmod (wrap64 ((wrap64 ((wrap64 ((wrap64 (a1)) - (wrap64 (a2)))) - x11_14)) + 512)) 256) == 0), .bool true, .bool false, .bool false]) ?_ 2 _ rfl; (with_reducible repeat (first | refine blk_drewN ?_ _ | refine blk_drew ?_ | refine blk_alloc ?_ _)); refine blk_put (cs := #[.bool ((Int.tmod (wrap64 ((wrap64 ((wrap64 ((wrap64 (a1)) - (wrap64 (a2)))) - x11_14)) + 512)) 256) == 0), .bool false, .bool false, .bool false]) ?_ 1 _ rfl; (with_reducible repeat (first | refine blk_drewN ?_ _ | refine blk_drew ?_ | refine blk_alloc ?_ _)); refine blk_put (cs := #[.bool false, .bool false, .bool false, .bool false]) ?_ 0 _ rfl; (with_reducible repeat (first | refine blk_drewN ?_ _ | refine blk_drew ?_ | refine blk_alloc ?_ _)); exact BK194.out) Try.underlying23 rfl (by kernel_rfl)) rfl ?_
                    exact ⟨by first | rfl | (simp [errW_none, errW_some] <;> rfl) | (simp [*, errW_none, errW_some] <;> rfl), by repeat (first | (with_reducible first | exact HB.out | apply below_alloc | apply pw_below_drewN | apply below_drew1 | refine below_set ?_ GE193.out | refine below_set ?_ GE194.out | refine below_set ?_ GE196.out) | exact HB.out)⟩
                · replace c23 := Bool.eq_false_iff.mpr c23
                  subst c23
                  have H1 : ((whirligigref02_each.f kj19 t195 a1 a2).bind fun t197 => (some (t197, (t197 == 0), false, (t195 == 4), false))) = some (r1, r2, r3, r4, r5) := by rw [if_neg (show ¬ (false = true) by decide)] at H; exact H
                  clear H
                  have H := H1
                  clear H1
                  replace H := Option.bind_eq_some_iff.mp H
                  obtain ⟨t197, A450, H⟩ := H
                  replace H : (some (t197, (t197 == 0), false, (t195 == 4), false)) = some (r1, r2, r3, r4, r5) := H
                  have A45 := Aside0.mk A450
                  clear A450
                  simp only [Option.some.injEq, Prod.mk.injEq] at H
                  obtain ⟨rfl, rfl, rfl, rfl, rfl⟩ := H
                  go_wp2_with (first | ((with_reducible refine gate_callee (f := 38) rfl ?_); refine goesL_ (some 104) rfl rfl Try.func38 (by kernel_rfl) rfl #[.int .i64 t195, .int .u8 a1, .int .u8 a2] rfl (by (try simp only [List.map_toArray, List.map_cons, List.map_nil]); first | done | rfl | (simp only [List.length_drop, List.length_take]; rfl)) ?_; (with_reducible refine (whirligigref02_each.calls kj19 t195 a1 a2 t197 _ A45.out).mono ?_); rintro e w' ⟨rfl, ⟨nd, rfl⟩⟩; refine ⟨_, rfl, ?_⟩; (try (rw [drewN_self wc]; generalize hq_ : World.drewN wc _ = wc; have n0_ : Aside0 (wc.heap[gb193]? = some (.cells #[.bool a3_0, .bool a3_1, .bool a3_2, .bool a3_3] 23 (0, 0))) := ⟨by rw [← hq_]; exact (by (with_reducible repeat (first | refine blk_drewN ?_ _ | refine blk_drew ?_ | refine blk_alloc ?_ _)); exact BK193.out)⟩; have n1_ : Aside0 (wc.heap[gb194]? = some (.cells #[.bool false, .bool false, .bool false, .bool false] 23 (0, 0))) := ⟨by rw [← hq_]; exact (by (with_reducible repeat (first | refine blk_drewN ?_ _ | refine blk_drew ?_ | refine blk_alloc ?_ _)); exact BK194.out)⟩; have n2_ : Aside0 (Below w.heap.size w wc) := ⟨by rw [← hq_]; exact (by repeat (first | (with_reducible first | exact HB.out | apply below_alloc | apply pw_below_drewN | apply below_drew1 | refine below_set ?_ GE193.out | refine below_set ?_ GE194.out) | exact HB.out))⟩; clear BK193 BK194 HB hq_; have BK193 := n0_; have BK194 := n1_; have HB := n2_; clear n0_ n1_ n2_)); have hnb46 := NB194_193.out; have hnc46 := NB193_194.out; have hcz47_0 : wc.cell? ⟨gb194, 0, none⟩ = some (.bool false) := (blk_cell BK194.out 0).trans rfl; have hcz47_1 : wc.cell? ⟨gb194, 1, none⟩ = some (.bool false) := (blk_cell BK194.out 1).trans rfl; have hcz47_2 : wc.cell? ⟨gb194, 2, none⟩ = some (.bool false) := (blk_cell BK194.out 2).trans rfl; have hcz47_3 : wc.cell? ⟨gb194, 3, none⟩ = some (.bool false) := (blk_cell BK194.out 3).trans rfl; have hfz47_0 := blk_frozen BK194.out 0; have hfz47_1 := blk_frozen BK194.out 1; have hfz47_2 := blk_frozen BK194.out 2; have hfz47_3 := blk_frozen BK194.out 3))
                  refine bodyPost_ret (results_tc rfl _ _ gb194 23 #[.bool (t197 == 0), .bool false, .bool (t195 == 4), .bool false] (0, 0) _ rfl (by (with_reducible repeat (first | refine blk_drewN ?_ _ | refine blk_drew ?_ | refine blk_alloc ?_ _)); refine blk_put (cs := #[.bool (t197 == 0), .bool false, .bool (t195 == 4), .bool false]) ?_ 3 _ rfl; (with_reducible repeat (first | refine blk_drewN ?_ _ | refine blk_drew ?_ | refine blk_alloc ?_ _)); refine blk_put (cs := #[.bool (t197 == 0), .bool false, .bool false, .bool false]) ?_ 2 _ rfl; (with_reducible repeat (first | refine blk_drewN ?_ _ | refine blk_drew ?_ | refine blk_alloc ?_ _)); refine blk_put (cs := #[.bool (t197 == 0), .bool false, .bool false, .bool false]) ?_ 1 _ rfl; (with_reducible repeat (first | refine blk_drewN ?_ _ | refine blk_drew ?_ | refine blk_alloc ?_ _)); refine blk_put (cs := #[.bool false, .bool false, .bool false, .bool false]) ?_ 0 _ rfl; (with_reducible repeat (first | refine blk_drewN ?_ _ | refine blk_drew ?_ | refine blk_alloc ?_ _)); exact BK194.out) Try.underlying23 rfl (by kernel_rfl)) rfl ?_
                  exact ⟨by first | rfl | (simp [errW_none, errW_some] <;> rfl) | (simp [*, errW_none, errW_some] <;> rfl), by repeat (first | (with_reducible first | exact HB.out | apply below_alloc | apply pw_below_drewN | apply below_drew1 | refine below_set ?_ GE193.out | refine below_set ?_ GE194.out) | exact HB.out)⟩

end Go.Proofs.Ytdfpaebbejdjlaa.G
