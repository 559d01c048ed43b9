/- Written by a program of this session, after the kit's print: Go functions as Lean functions, each with the proof that the Go text comes to it. -/
import Derived.Test.YtdfpaebbejdjlaaG0
namespace Go.Proofs.Ytdfpaebbejdjlaa.G
open Go.RowKit Go.Proofs.YtdfpaebbejdjlaaW.PrintWords Go.Proofs.YtdfpaebbejdjlaaW.PrintLast Go.Proofs.YtdfpaebbejdjlaaW.PrintMore
attribute [local go_sem] max2_int min2_int max_two min_two max_three min_three max_four min_four   -- for this text's walks alone
set_option linter.unusedVariables false
set_option linter.unusedSimpArgs false

/-! ### alu_Daa: function 14 -/
mutual
def alu_Daa.j0 : Nat → Int → Int → Bool → Bool → Bool → Bool → Bool → Option (Int × Bool × Bool × Bool × Bool)
  | 0, _, _, _, _, _, _, _ => none
  | k + 1, x0, x6, x18, x141000, x141001, x141002, x141003 => if x18 = true then (alu_Daa.j1 k x0 6 x141000 x141001 x141002 x141003) else (alu_Daa.j1 k x0 x6 x141000 x141001 x141002 x141003)
def alu_Daa.j1 : Nat → Int → Int → Bool → Bool → Bool → Bool → Option (Int × Bool × Bool × Bool × Bool)
  | 0, _, _, _, _, _, _ => none
  | k + 1, x0, x6, x141000, x141001, x141002, x141003 => if x141003 = true then (alu_Daa.j2 k x0 x6 true x141000 x141001 x141002 x141003) else (if x141001 = true then (alu_Daa.j2 k x0 x6 false x141000 x141001 x141002 x141003) else (alu_Daa.j2 k x0 x6 (decide (x0 > 153)) x141000 x141001 x141002 x141003))
def alu_Daa.j2 : Nat → Int → Int → Bool → Bool → Bool → Bool → Bool → Option (Int × Bool × Bool × Bool × Bool)
  | 0, _, _, _, _, _, _, _ => none
  | k + 1, x0, x6, x29, x141000, x141001, x141002, x141003 => if x29 = true then (if x141001 = true then (some ((x0 - (Go.bits .or .u8 x6 96)) % 256, (((x0 - (Go.bits .or .u8 x6 96)) % 256) == 0), x141001, false, true)) else (some ((x0 + (Go.bits .or .u8 x6 96)) % 256, (((x0 + (Go.bits .or .u8 x6 96)) % 256) == 0), x141001, false, true))) else (if x141001 = true then (some ((x0 - x6) % 256, (((x0 - x6) % 256) == 0), x141001, false, x141003)) else (some ((x0 + x6) % 256, (((x0 + x6) % 256) == 0), x141001, false, x141003)))
end
def alu_Daa.f (k : Nat) (a0 : Int) (a1_0 : Bool) (a1_1 : Bool) (a1_2 : Bool) (a1_3 : Bool) : Option (Int × Bool × Bool × Bool × Bool) := if a1_2 = true then (alu_Daa.j0 k a0 0 true a1_0 a1_1 a1_2 a1_3) else (if a1_1 = true then (alu_Daa.j0 k a0 0 false a1_0 a1_1 a1_2 a1_3) else (alu_Daa.j0 k a0 0 (decide ((Go.bits .and .u8 a0 15) > 9)) a1_0 a1_1 a1_2 a1_3))
theorem alu_Daa.mono_l : ∀ k, (∀ y0 y1 y2 y3 y4 y5 y6, LeO (alu_Daa.j0 k y0 y1 y2 y3 y4 y5 y6) (alu_Daa.j0 (k + 1) y0 y1 y2 y3 y4 y5 y6)) ∧ (∀ y0 y1 y2 y3 y4 y5, LeO (alu_Daa.j1 k y0 y1 y2 y3 y4 y5) (alu_Daa.j1 (k + 1) y0 y1 y2 y3 y4 y5)) ∧ (∀ y0 y1 y2 y3 y4 y5 y6, LeO (alu_Daa.j2 k y0 y1 y2 y3 y4 y5 y6) (alu_Daa.j2 (k + 1) y0 y1 y2 y3 y4 y5 y6))
  | 0 => ⟨fun _ _ _ _ _ _ _ r h => by simp [alu_Daa.j0] at h, fun _ _ _ _ _ _ r h => by simp [alu_Daa.j1] at h, fun _ _ _ _ _ _ _ r h => by simp [alu_Daa.j2] at h⟩
  | k + 1 => by
    obtain ⟨ih0, ih1, ih2⟩ := alu_Daa.mono_l k
    refine ⟨?_, ?_, ?_⟩
    · intro y0 y1 y2 y3 y4 y5 y6
      unfold alu_Daa.j0
      repeat' first
      | (with_reducible exact ih0 _ _ _ _ _ _ _)
      | (with_reducible exact ih1 _ _ _ _ _ _)
      | (with_reducible exact ih2 _ _ _ _ _ _ _)
      | (with_reducible exact LeO.refl _)
      | (with_reducible exact LeO.none _)
      | (with_reducible refine LeO.ite ?_ ?_)
      | (with_reducible refine LeO.bind ?_ (fun _ => ?_))
      | exact ih0 _ _ _ _ _ _ _
      | exact ih1 _ _ _ _ _ _
      | exact ih2 _ _ _ _ _ _ _
      | exact LeO.none _
      | refine LeO.ite ?_ ?_
      | refine LeO.bind ?_ (fun _ => ?_)
    · intro y0 y1 y2 y3 y4 y5
      unfold alu_Daa.j1
      repeat' first
      | (with_reducible exact ih0 _ _ _ _ _ _ _)
      | (with_reducible exact ih1 _ _ _ _ _ _)
      | (with_reducible exact ih2 _ _ _ _ _ _ _)
      | (with_reducible exact LeO.refl _)
      | (with_reducible exact LeO.none _)
      | (with_reducible refine LeO.ite ?_ ?_)
      | (with_reducible refine LeO.bind ?_ (fun _ => ?_))
      | exact ih0 _ _ _ _ _ _ _
      | exact ih1 _ _ _ _ _ _
      | exact ih2 _ _ _ _ _ _ _
      | exact LeO.none _
      | refine LeO.ite ?_ ?_
      | refine LeO.bind ?_ (fun _ => ?_)
    · intro y0 y1 y2 y3 y4 y5 y6
      unfold alu_Daa.j2
      repeat' first
      | (with_reducible exact ih0 _ _ _ _ _ _ _)
      | (with_reducible exact ih1 _ _ _ _ _ _)
      | (with_reducible exact ih2 _ _ _ _ _ _ _)
      | (with_reducible exact LeO.refl _)
      | (with_reducible exact LeO.none _)
      | (with_reducible refine LeO.ite ?_ ?_)
      | (with_reducible refine LeO.bind ?_ (fun _ => ?_))
      | exact ih0 _ _ _ _ _ _ _
      | exact ih1 _ _ _ _ _ _
      | exact ih2 _ _ _ _ _ _ _
      | exact LeO.none _
      | refine LeO.ite ?_ ?_
      | refine LeO.bind ?_ (fun _ => ?_)
theorem alu_Daa.mono : ∀ a0 a1 a2 a3 a4 k, LeO (alu_Daa.f k a0 a1 a2 a3 a4) (alu_Daa.f (k + 1) a0 a1 a2 a3 a4) := by
  intro a0 a1 a2 a3 a4 k
  obtain ⟨ih0, ih1, ih2⟩ := alu_Daa.mono_l k
  unfold alu_Daa.f
  repeat' first
      | (with_reducible exact ih0 _ _ _ _ _ _ _)
      | (with_reducible exact ih1 _ _ _ _ _ _)
      | (with_reducible exact ih2 _ _ _ _ _ _ _)
      | (with_reducible exact LeO.refl _)
      | (with_reducible exact LeO.none _)
      | (with_reducible refine LeO.ite ?_ ?_)
      | (with_reducible refine LeO.bind ?_ (fun _ => ?_))
      | exact ih0 _ _ _ _ _ _ _
      | exact ih1 _ _ _ _ _ _
      | exact ih2 _ _ _ _ _ _ _
      | exact LeO.none _
      | refine LeO.ite ?_ ?_
      | refine LeO.bind ?_ (fun _ => ?_)
def alu_Daa.T10 : Bool × List (List Nat × List Nat) := (true, [([], []), ([], []), ([1], [1]), ([], []), ([3], [3]), ([], []), ([5], [5]), ([2, 4, 6], [2, 4, 6]), ([0, 0], [0]), ([7, 8, 0, 1, 2, 3, 4, 5, 6, 7, 8], [7])])
def alu_Daa.B10 : List Nat := [0, 0, 2, 0, 8, 0, 32, 126, 1, 511]
theorem alu_Daa.tab10 : rtab .any (opsOf Try.f14 10) = alu_Daa.T10 := by kernel_rfl
theorem alu_Daa.bits10 : waitsOk alu_Daa.T10.2 alu_Daa.B10 = true := by kernel_rfl
set_option maxHeartbeats 8000000 in
set_option maxRecDepth 100000 in
theorem alu_Daa.calls (k : Nat) (a0 : Int) (a1_0 : Bool) (a1_1 : Bool) (a1_2 : Bool) (a1_3 : Bool) (r1 : Int) (r2 : Bool) (r3 : Bool) (r4 : Bool) (r5 : Bool) (w : World) (h : alu_Daa.f k a0 a1_0 a1_1 a1_2 a1_3 = some (r1, r2, r3, r4, r5)) :
    Calls Try.prog 14 #[.int .u8 a0, .agg #[.bool a1_0, .bool a1_1, .bool a1_2, .bool a1_3]] w fun e w' => e = .returned (.tuple #[.int .u8 r1, .agg #[.bool r2, .bool r3, .bool r4, .bool r5]]) ∧ Below w.heap.size w w' := by
  have hu23 := Try.underlying23
  have HB := Aside0.mk (Below.refl w.heap.size w)
  have H : (if a1_2 = true then (alu_Daa.j0 k a0 0 true a1_0 a1_1 a1_2 a1_3) else (if a1_1 = true then (alu_Daa.j0 k a0 0 false a1_0 a1_1 a1_2 a1_3) else (alu_Daa.j0 k a0 0 (decide ((Go.bits .and .u8 a0 15) > 9)) a1_0 a1_1 a1_2 a1_3))) = some (r1, r2, r3, r4, r5) := h
  clear h
  have HC3 := Aside0.mk H
  clear H
  go_enter Try.func14, Try.ntmps14
  go_upto_region 2 with (first | ((with_reducible refine gate_dst (N := 3) rfl ?_); refine box_event ?hg (N := 3) ?hd (cs := #[.bool a1_0, .bool a1_1, .bool a1_2, .bool a1_3]) (t := 23) ?hr ?_; (case hd => rfl); (case hg => rfl); (case hr => first | (go_simp; done) | (go_simp; rfl)); intro gb140 hg w4 hbox hb; have n0_ := Aside0.mk (below_step (by repeat (first | (with_reducible first | exact HB.out | apply below_alloc | apply pw_below_drewN | apply below_drew1) | exact HB.out)) hb); have n1_ := Aside0.mk (hbox); have n2_ := Aside0.mk ((by rw [hg]; exact (below_size (by repeat (first | (with_reducible first | exact HB.out | apply below_alloc | apply pw_below_drewN | apply below_drew1) | exact HB.out))) : w.heap.size ≤ gb140)); have n3_ := Aside0.mk ((by rw [hg]; exact (below_size (by repeat (first | (with_reducible first | exact HB.out | apply below_alloc | apply pw_below_drewN | apply below_drew1) | exact HB.out))) : w.heap.size ≤ gb140)); clear HB; have HB := n0_; have BK140 := n1_; have GW140 := n2_; have GE140 := n3_; clear n0_ n1_ n2_ n3_; clear hb hbox hg) | ((with_reducible refine gate_dst (N := 5) rfl ?_); refine box_event ?hg (N := 5) ?hd (cs := #[.bool false, .bool false, .bool false, .bool false]) (t := 23) ?hr ?_; (case hd => rfl); (case hg => rfl); (case hr => first | (go_simp; done) | (go_simp; rfl)); intro gb141 hg w5 hbox hb; have n0_ := Aside0.mk (blk_below (g := gb140) (o := .cells #[.bool a1_0, .bool a1_1, .bool a1_2, .bool a1_3] 23 (0, 0)) (by (with_reducible repeat (first | refine blk_drewN ?_ _ | refine blk_drew ?_ | refine blk_alloc ?_ _)); exact BK140.out) hb); have n1_ := Aside0.mk (below_step (by repeat (first | (with_reducible first | exact HB.out | apply below_alloc | apply pw_below_drewN | apply below_drew1 | refine below_set ?_ GE140.out) | exact HB.out)) hb); have n2_ := Aside0.mk (hbox); have n3_ := Aside0.mk ((by rw [hg]; exact (below_size (by repeat (first | (with_reducible first | exact HB.out | apply below_alloc | apply pw_below_drewN | apply below_drew1 | refine below_set ?_ GE140.out) | exact HB.out))) : w.heap.size ≤ gb141)); have n4_ := Aside0.mk ((by rw [hg]; exact (below_size (by repeat (first | (with_reducible first | exact HB.out | apply below_alloc | apply pw_below_drewN | apply below_drew1 | refine below_set ?_ GE140.out) | exact HB.out))) : w.heap.size ≤ gb141)); have n5_ := Aside0.mk ((by rw [hg]; exact Nat.ne_of_lt (blk_lt (g := gb140) (o := .cells #[.bool a1_0, .bool a1_1, .bool a1_2, .bool a1_3] 23 (0, 0)) (by (with_reducible repeat (first | refine blk_drewN ?_ _ | refine blk_drew ?_ | refine blk_alloc ?_ _)); exact BK140.out)) : gb140 ≠ gb141)); have n6_ := Aside0.mk ((by rw [hg]; exact Nat.ne_of_gt (blk_lt (g := gb140) (o := .cells #[.bool a1_0, .bool a1_1, .bool a1_2, .bool a1_3] 23 (0, 0)) (by (with_reducible repeat (first | refine blk_drewN ?_ _ | refine blk_drew ?_ | refine blk_alloc ?_ _)); exact BK140.out)) : gb141 ≠ gb140)); clear BK140; clear HB; have BK140 := n0_; have HB := n1_; have BK141 := n2_; have GW141 := n3_; have GE141 := n4_; have NB140_141 := n5_; have NB141_140 := n6_; clear n0_ n1_ n2_ n3_ n4_ n5_ n6_; clear hb hbox hg))
  (try simp only [Act.put, List.setIfInBounds_toArray, List.set_cons_zero, List.set_cons_succ])
  go_cut [18] (fun v18 wc => ∃ (kq : Nat) (x18_2 : Bool), v18 = .bool x18_2 ∧ Aside0 (alu_Daa.j0 kq a0 0 x18_2 a1_0 a1_1 a1_2 a1_3 = some (r1, r2, r3, r4, r5)) ∧ Aside0 (kq ≤ k) ∧ Aside0 (wc.heap[gb140]? = some (.cells #[.bool a1_0, .bool a1_1, .bool a1_2, .bool a1_3] 23 (0, 0))) ∧ Aside0 (wc.heap[gb141]? = some (.cells #[.bool false, .bool false, .bool false, .bool false] 23 (0, 0))) ∧ Aside0 (Below w.heap.size w wc))
  case first =>
    have H := HC3.out
    clear HC3
    by_cases c6 : a1_2 = true
    · subst c6
      have H1 : (alu_Daa.j0 k a0 0 true a1_0 a1_1 true a1_3) = some (r1, r2, r3, r4, r5) := by rw [if_pos rfl] at H; exact H
      clear H
      have H := H1
      clear H1
      have H' := Aside0.mk H
      clear H
      have hnb7 := NB140_141.out
      have hnc7 := NB141_140.out
      have hcz8_0 : w5.cell? ⟨gb140, 0, none⟩ = some (.bool a1_0) := (blk_cell BK140.out 0).trans rfl
      have hcz8_1 : w5.cell? ⟨gb140, 1, none⟩ = some (.bool a1_1) := (blk_cell BK140.out 1).trans rfl
      have hcz8_2 : w5.cell? ⟨gb140, 2, none⟩ = some (.bool true) := (blk_cell BK140.out 2).trans rfl
      have hcz8_3 : w5.cell? ⟨gb140, 3, none⟩ = some (.bool a1_3) := (blk_cell BK140.out 3).trans rfl
      have hfz8_0 := blk_frozen BK140.out 0
      have hfz8_1 := blk_frozen BK140.out 1
      have hfz8_2 := blk_frozen BK140.out 2
      have hfz8_3 := blk_frozen BK140.out 3
      go_wp2
      go_meet
      case rel => exact ⟨_, (true), (by first | rfl | (simp; done) | (simp [*]; done)), H', ⟨by first | omega | exact Nat.le_refl _⟩, ⟨by (with_reducible repeat (first | refine blk_drewN ?_ _ | refine blk_drew ?_ | refine blk_alloc ?_ _)); exact BK140.out⟩, ⟨by (with_reducible repeat (first | refine blk_drewN ?_ _ | refine blk_drew ?_ | refine blk_alloc ?_ _)); exact BK141.out⟩, ⟨by repeat (first | (with_reducible first | exact HB.out | apply below_alloc | apply pw_below_drewN | apply below_drew1 | refine below_set ?_ GE140.out | refine below_set ?_ GE141.out) | exact HB.out)⟩⟩
    · replace c6 := Bool.eq_false_iff.mpr c6
      subst c6
      have H1 : (if a1_1 = true then (alu_Daa.j0 k a0 0 false a1_0 a1_1 false a1_3) else (alu_Daa.j0 k a0 0 (decide ((Go.bits .and .u8 a0 15) > 9)) a1_0 a1_1 false a1_3)) = some (r1, r2, r3, r4, r5) := by rw [if_neg (show ¬ (false = true) by decide)] at H; exact H
      clear H
      have H := H1
      clear H1
      by_cases c9 : a1_1 = true
      · subst c9
        have H1 : (alu_Daa.j0 k a0 0 false a1_0 true false a1_3) = some (r1, r2, r3, r4, r5) := by rw [if_pos rfl] at H; exact H
        clear H
        have H := H1
        clear H1
        have H' := Aside0.mk H
        clear H
        have hnb10 := NB140_141.out
        have hnc10 := NB141_140.out
        have hcz11_0 : w5.cell? ⟨gb140, 0, none⟩ = some (.bool a1_0) := (blk_cell BK140.out 0).trans rfl
        have hcz11_1 : w5.cell? ⟨gb140, 1, none⟩ = some (.bool true) := (blk_cell BK140.out 1).trans rfl
        have hcz11_2 : w5.cell? ⟨gb140, 2, none⟩ = some (.bool false) := (blk_cell BK140.out 2).trans rfl
        have hcz11_3 : w5.cell? ⟨gb140, 3, none⟩ = some (.bool a1_3) := (blk_cell BK140.out 3).trans rfl
        have hfz11_0 := blk_frozen BK140.out 0
        have hfz11_1 := blk_frozen BK140.out 1
        have hfz11_2 := blk_frozen BK140.out 2
        have hfz11_3 := blk_frozen BK140.out 3
        go_wp2
        go_meet
        case rel => exact ⟨_, (false), (by first | rfl | (simp; done) | (simp [*]; done)), H', ⟨by first | omega | exact Nat.le_refl _⟩, ⟨by (with_reducible repeat (first | refine blk_drewN ?_ _ | refine blk_drew ?_ | refine blk_alloc ?_ _)); exact BK140.out⟩, ⟨by (with_reducible repeat (first | refine blk_drewN ?_ _ | refine blk_drew ?_ | refine blk_alloc ?_ _)); exact BK141.out⟩, ⟨by repeat (first | (with_reducible first | exact HB.out | apply below_alloc | apply pw_below_drewN | apply below_drew1 | refine below_set ?_ GE140.out | refine below_set ?_ GE141.out) | exact HB.out)⟩⟩
      · replace c9 := Bool.eq_false_iff.mpr c9
        subst c9
        have H1 : (alu_Daa.j0 k a0 0 (decide ((Go.bits .and .u8 a0 15) > 9)) a1_0 false false a1_3) = some (r1, r2, r3, r4, r5) := by rw [if_neg (show ¬ (false = true) by decide)] at H; exact H
        clear H
        have H := H1
        clear H1
        have H' := Aside0.mk H
        clear H
        have hnb12 := NB140_141.out
        have hnc12 := NB141_140.out
        have hcz13_0 : w5.cell? ⟨gb140, 0, none⟩ = some (.bool a1_0) := (blk_cell BK140.out 0).trans rfl
        have hcz13_1 : w5.cell? ⟨gb140, 1, none⟩ = some (.bool false) := (blk_cell BK140.out 1).trans rfl
        have hcz13_2 : w5.cell? ⟨gb140, 2, none⟩ = some (.bool false) := (blk_cell BK140.out 2).trans rfl
        have hcz13_3 : w5.cell? ⟨gb140, 3, none⟩ = some (.bool a1_3) := (blk_cell BK140.out 3).trans rfl
        have hfz13_0 := blk_frozen BK140.out 0
        have hfz13_1 := blk_frozen BK140.out 1
        have hfz13_2 := blk_frozen BK140.out 2
        have hfz13_3 := blk_frozen BK140.out 3
        go_wp2
        go_meet
        case rel => exact ⟨_, (decide ((Go.bits .and .u8 a0 15) > 9)), (by first | rfl | (simp; done) | (simp [*]; done)), H', ⟨by first | omega | exact Nat.le_refl _⟩, ⟨by (with_reducible repeat (first | refine blk_drewN ?_ _ | refine blk_drew ?_ | refine blk_alloc ?_ _)); exact BK140.out⟩, ⟨by (with_reducible repeat (first | refine blk_drewN ?_ _ | refine blk_drew ?_ | refine blk_alloc ?_ _)); exact BK141.out⟩, ⟨by repeat (first | (with_reducible first | exact HB.out | apply below_alloc | apply pw_below_drewN | apply below_drew1 | refine below_set ?_ GE140.out | refine below_set ?_ GE141.out) | exact HB.out)⟩⟩
  case rest =>
    clear HC3
    try clear c1
    try clear p2
    try clear c6
    try clear c7
    try clear c9
    try clear c10
    try clear c12
    try clear hcz11_0
    try clear hcz11_1
    try clear hcz11_2
    try clear hcz11_3
    try clear hcz13_0
    try clear hcz13_1
    try clear hcz13_2
    try clear hcz13_3
    try clear hcz8_0
    try clear hcz8_1
    try clear hcz8_2
    try clear hcz8_3
    try clear hfz11_0
    try clear hfz11_1
    try clear hfz11_2
    try clear hfz11_3
    try clear hfz13_0
    try clear hfz13_1
    try clear hfz13_2
    try clear hfz13_3
    try clear hfz8_0
    try clear hfz8_1
    try clear hfz8_2
    try clear hfz8_3
    obtain ⟨kq, x18_2, rfl, HA, HJ2, BK140, BK141, HB⟩ := hcut
    cases kq with
    | zero => exact absurd HA.out (by simp [alu_Daa.j0])
    | succ kj2 =>
      have H := HA.out
      clear HA
      simp only [alu_Daa.j0] at H
      have HC14 := Aside0.mk H
      clear H
      go_upto_if 18 with (fail)
      go_cut [6] (fun v6 wc => ∃ (kq : Nat) (x6_13 : Int), v6 = .int .u8 x6_13 ∧ Aside0 (alu_Daa.j1 kq a0 x6_13 a1_0 a1_1 a1_2 a1_3 = some (r1, r2, r3, r4, r5)) ∧ Aside0 (kq ≤ kj2) ∧ Aside0 (wc.heap[gb140]? = some (.cells #[.bool a1_0, .bool a1_1, .bool a1_2, .bool a1_3] 23 (0, 0))) ∧ Aside0 (wc.heap[gb141]? = some (.cells #[.bool false, .bool false, .bool false, .bool false] 23 (0, 0))) ∧ Aside0 (Below w.heap.size w wc))
      case first =>
        have H := HC14.out
        clear HC14
        by_cases c15 : x18_2 = true
        · subst c15
          have H1 : (alu_Daa.j1 kj2 a0 6 a1_0 a1_1 a1_2 a1_3) = some (r1, r2, r3, r4, r5) := by rw [if_pos rfl] at H; exact H
          clear H
          have H := H1
          clear H1
          have H' := Aside0.mk H
          clear H
          go_wp2
          go_meet
          case rel => exact ⟨_, (6), (by first | rfl | (simp; done) | (simp [*]; done)), H', ⟨by have := HJ2.out; first | omega | exact Nat.le_refl _⟩, ⟨by (with_reducible repeat (first | refine blk_drewN ?_ _ | refine blk_drew ?_ | refine blk_alloc ?_ _)); exact BK140.out⟩, ⟨by (with_reducible repeat (first | refine blk_drewN ?_ _ | refine blk_drew ?_ | refine blk_alloc ?_ _)); exact BK141.out⟩, ⟨by repeat (first | (with_reducible first | exact HB.out | apply below_alloc | apply pw_below_drewN | apply below_drew1 | refine below_set ?_ GE140.out | refine below_set ?_ GE141.out) | exact HB.out)⟩⟩
        · replace c15 := Bool.eq_false_iff.mpr c15
          subst c15
          have H1 : (alu_Daa.j1 kj2 a0 0 a1_0 a1_1 a1_2 a1_3) = some (r1, r2, r3, r4, r5) := by rw [if_neg (show ¬ (false = true) by decide)] at H; exact H
          clear H
          have H := H1
          clear H1
          have H' := Aside0.mk H
          clear H
          go_wp2
          go_meet
          case rel => exact ⟨_, (0), (by first | rfl | (simp; done) | (simp [*]; done)), H', ⟨by have := HJ2.out; first | omega | exact Nat.le_refl _⟩, ⟨by (with_reducible repeat (first | refine blk_drewN ?_ _ | refine blk_drew ?_ | refine blk_alloc ?_ _)); exact BK140.out⟩, ⟨by (with_reducible repeat (first | refine blk_drewN ?_ _ | refine blk_drew ?_ | refine blk_alloc ?_ _)); exact BK141.out⟩, ⟨by repeat (first | (with_reducible first | exact HB.out | apply below_alloc | apply pw_below_drewN | apply below_drew1 | refine below_set ?_ GE140.out | refine below_set ?_ GE141.out) | exact HB.out)⟩⟩
      case rest =>
        clear HC14
        try clear c1
        try clear p2
        try clear c6
        try clear c7
        try clear c9
        try clear c10
        try clear c12
        try clear c14
        try clear c15
        try clear hcz11_0
        try clear hcz11_1
        try clear hcz11_2
        try clear hcz11_3
        try clear hcz13_0
        try clear hcz13_1
        try clear hcz13_2
        try clear hcz13_3
        try clear hcz8_0
        try clear hcz8_1
        try clear hcz8_2
        try clear hcz8_3
        try clear hfz11_0
        try clear hfz11_1
        try clear hfz11_2
        try clear hfz11_3
        try clear hfz13_0
        try clear hfz13_1
        try clear hfz13_2
        try clear hfz13_3
        try clear hfz8_0
        try clear hfz8_1
        try clear hfz8_2
        try clear hfz8_3
        try clear p2
        obtain ⟨kq, x6_13, rfl, HA, HJ13, BK140, BK141, HB⟩ := hcut
        cases kq with
        | zero => exact absurd HA.out (by simp [alu_Daa.j1])
        | succ kj13 =>
          have H := HA.out
          clear HA
          simp only [alu_Daa.j1] at H
          have HC16 := Aside0.mk H
          clear H
          go_upto_region 4 with (fail)
          go_cut [29] (fun v29 wc => ∃ (kq : Nat) (x29_15 : Bool), v29 = .bool x29_15 ∧ Aside0 (alu_Daa.j2 kq a0 x6_13 x29_15 a1_0 a1_1 a1_2 a1_3 = some (r1, r2, r3, r4, r5)) ∧ Aside0 (kq ≤ kj13) ∧ Aside0 (wc.heap[gb140]? = some (.cells #[.bool a1_0, .bool a1_1, .bool a1_2, .bool a1_3] 23 (0, 0))) ∧ Aside0 (wc.heap[gb141]? = some (.cells #[.bool false, .bool false, .bool false, .bool false] 23 (0, 0))) ∧ Aside0 (Below w.heap.size w wc))
          case first =>
            have H := HC16.out
            clear HC16
            by_cases c17 : a1_3 = true
            · subst c17
              have H1 : (alu_Daa.j2 kj13 a0 x6_13 true a1_0 a1_1 a1_2 true) = some (r1, r2, r3, r4, r5) := by rw [if_pos rfl] at H; exact H
              clear H
              have H := H1
              clear H1
              have H' := Aside0.mk H
              clear H
              have hnb18 := NB140_141.out
              have hnc18 := NB141_140.out
              have hcz19_0 : wc.cell? ⟨gb140, 0, none⟩ = some (.bool a1_0) := (blk_cell BK140.out 0).trans rfl
              have hcz19_1 : wc.cell? ⟨gb140, 1, none⟩ = some (.bool a1_1) := (blk_cell BK140.out 1).trans rfl
              have hcz19_2 : wc.cell? ⟨gb140, 2, none⟩ = some (.bool a1_2) := (blk_cell BK140.out 2).trans rfl
              have hcz19_3 : wc.cell? ⟨gb140, 3, none⟩ = some (.bool true) := (blk_cell BK140.out 3).trans rfl
              have hfz19_0 := blk_frozen BK140.out 0
              have hfz19_1 := blk_frozen BK140.out 1
              have hfz19_2 := blk_frozen BK140.out 2
              have hfz19_3 := blk_frozen BK140.out 3
              go_wp2
              go_meet
              case rel => exact ⟨_, (true), (by first | rfl | (simp; done) | (simp [*]; done)), H', ⟨by have := HJ2.out; have := HJ13.out; first | omega | exact Nat.le_refl _⟩, ⟨by (with_reducible repeat (first | refine blk_drewN ?_ _ | refine blk_drew ?_ | refine blk_alloc ?_ _)); exact BK140.out⟩, ⟨by (with_reducible repeat (first | refine blk_drewN ?_ _ | refine blk_drew ?_ | refine blk_alloc ?_ _)); exact BK141.out⟩, ⟨by repeat (first | (with_reducible first | exact HB.out | apply below_alloc | apply pw_below_drewN | apply below_drew1 | refine below_set ?_ GE140.out | refine below_set ?_ GE141.out) | exact HB.out)⟩⟩
            · replace c17 := Bool.eq_false_iff.mpr c17
              subst c17
              have H1 : (if a1_1 = true then (alu_Daa.j2 kj13 a0 x6_13 false a1_0 a1_1 a1_2 false) else (alu_Daa.j2 kj13 a0 x6_13 (decide (a0 > 153)) a1_0 a1_1 a1_2 false)) = some (r1, r2, r3, r4, r5) := by rw [if_neg (show ¬ (false = true) by decide)] at H; exact H
              clear H
              have H := H1
              clear H1
              by_cases c20 : a1_1 = true
              · subst c20
                have H1 : (alu_Daa.j2 kj13 a0 x6_13 false a1_0 true a1_2 false) = some (r1, r2, r3, r4, r5) := by rw [if_pos rfl] at H; exact H
                clear H
                have H := H1
                clear H1
                have H' := Aside0.mk H
                clear H
                have hnb21 := NB140_141.out
                have hnc21 := NB141_140.out
                have hcz22_0 : wc.cell? ⟨gb140, 0, none⟩ = some (.bool a1_0) := (blk_cell BK140.out 0).trans rfl
                have hcz22_1 : wc.cell? ⟨gb140, 1, none⟩ = some (.bool true) := (blk_cell BK140.out 1).trans rfl
                have hcz22_2 : wc.cell? ⟨gb140, 2, none⟩ = some (.bool a1_2) := (blk_cell BK140.out 2).trans rfl
                have hcz22_3 : wc.cell? ⟨gb140, 3, none⟩ = some (.bool false) := (blk_cell BK140.out 3).trans rfl
                have hfz22_0 := blk_frozen BK140.out 0
                have hfz22_1 := blk_frozen BK140.out 1
                have hfz22_2 := blk_frozen BK140.out 2
                have hfz22_3 := blk_frozen BK140.out 3
                go_wp2
                go_meet
                case rel => exact ⟨_, (false), (by first | rfl | (simp; done) | (simp [*]; done)), H', ⟨by have := HJ2.out; have := HJ13.out; first | omega | exact Nat.le_refl _⟩, ⟨by (with_reducible repeat (first | refine blk_drewN ?_ _ | refine blk_drew ?_ | refine blk_alloc ?_ _)); exact BK140.out⟩, ⟨by (with_reducible repeat (first | refine blk_drewN ?_ _ | refine blk_drew ?_ | refine blk_alloc ?_ _)); exact BK141.out⟩, ⟨by repeat (first | (with_reducible first | exact HB.out | apply below_alloc | apply pw_below_drewN | apply below_drew1 | refine below_set ?_ GE140.out | refine below_set ?_ GE141.out) | exact HB.out)⟩⟩
              · replace c20 := Bool.eq_false_iff.mpr c20
                subst c20
                have H1 : (alu_Daa.j2 kj13 a0 x6_13 (decide (a0 > 153)) a1_0 false a1_2 false) = some (r1, r2, r3, r4, r5) := by rw [if_neg (show ¬ (false = true) by decide)] at H; exact H
                clear H
                have H := H1
                clear H1
                have H' := Aside0.mk H
                clear H
                have hnb23 := NB140_141.out
                have hnc23 := NB141_140.out
                have hcz24_0 : wc.cell? ⟨gb140, 0, none⟩ = some (.bool a1_0) := (blk_cell BK140.out 0).trans rfl
                have hcz24_1 : wc.cell? ⟨gb140, 1, none⟩ = some (.bool false) := (blk_cell BK140.out 1).trans rfl
                have hcz24_2 : wc.cell? ⟨gb140, 2, none⟩ = some (.bool a1_2) := (blk_cell BK140.out 2).trans rfl
                have hcz24_3 : wc.cell? ⟨gb140, 3, none⟩ = some (.bool false) := (blk_cell BK140.out 3).trans rfl
                have hfz24_0 := blk_frozen BK140.out 0
                have hfz24_1 := blk_frozen BK140.out 1
                have hfz24_2 := blk_frozen BK140.out 2
                have hfz24_3 := blk_frozen BK140.out 3
                go_wp2
                go_meet
                case rel => exact ⟨_, (decide (a0 > 153)), (by first | rfl | (simp; done) | (simp [*]; done)), H', ⟨by have := HJ2.out; have := HJ13.out; first | omega | exact Nat.le_refl _⟩, ⟨by (with_reducible repeat (first | refine blk_drewN ?_ _ | refine blk_drew ?_ | refine blk_alloc ?_ _)); exact BK140.out⟩, ⟨by (with_reducible repeat (first | refine blk_drewN ?_ _ | refine blk_drew ?_ | refine blk_alloc ?_ _)); exact BK141.out⟩, ⟨by repeat (first | (with_reducible first | exact HB.out | apply below_alloc | apply pw_below_drewN | apply below_drew1 | refine below_set ?_ GE140.out | refine below_set ?_ GE141.out) | exact HB.out)⟩⟩
          case rest =>
            clear HC16
            try clear c1
            try clear c2
            try clear p2
            try clear c6
            try clear c7
            try clear c9
            try clear c10
            try clear c12
            try clear c14
            try clear c15
            try clear c17
            try clear c18
            try clear c20
            try clear c21
            try clear c23
            try clear hcz11_0
            try clear hcz11_1
            try clear hcz11_2
            try clear hcz11_3
            try clear hcz13_0
            try clear hcz13_1
            try clear hcz13_2
            try clear hcz13_3
            try clear hcz19_0
            try clear hcz19_1
            try clear hcz19_2
            try clear hcz19_3
            try clear hcz22_0
            try clear hcz22_1
            try clear hcz22_2
            try clear hcz22_3
            try clear hcz24_0
            try clear hcz24_1
            try clear hcz24_2
            try clear hcz24_3
            try clear hcz8_0
            try clear hcz8_1
            try clear hcz8_2
            try clear hcz8_3
            try clear hfz11_0
            try clear hfz11_1
            try clear hfz11_2
            try clear hfz11_3
            try clear hfz13_0
            try clear hfz13_1
            try clear hfz13_2
            try clear hfz13_3
            try clear hfz19_0
            try clear hfz19_1
            try clear hfz19_2
            try clear hfz19_3
            try clear hfz22_0
            try clear hfz22_1
            try clear hfz22_2
            try clear hfz22_3
            try clear hfz24_0
            try clear hfz24_1
            try clear hfz24_2
            try clear hfz24_3
            try clear hfz8_0
            try clear hfz8_1
            try clear hfz8_2
            try clear hfz8_3
            try clear p2
            obtain ⟨kq, x29_15, rfl, HA, HJ15, BK140, BK141, HB⟩ := hcut
            cases kq with
            | zero => exact absurd HA.out (by simp [alu_Daa.j2])
            | succ kj15 =>
              have H := HA.out
              clear HA
              simp only [alu_Daa.j2] at H
              by_cases c25 : x29_15 = true
              · subst c25
                have H1 : (if a1_1 = true then (some ((a0 - (Go.bits .or .u8 x6_13 96)) % 256, (((a0 - (Go.bits .or .u8 x6_13 96)) % 256) == 0), a1_1, false, true)) else (some ((a0 + (Go.bits .or .u8 x6_13 96)) % 256, (((a0 + (Go.bits .or .u8 x6_13 96)) % 256) == 0), a1_1, false, true))) = some (r1, r2, r3, r4, r5) := by rw [if_pos rfl] at H; exact H
                clear H
                have H := H1
                clear H1
                by_cases c26 : a1_1 = true
                · subst c26
                  have H1 : (some ((a0 - (Go.bits .or .u8 x6_13 96)) % 256, (((a0 - (Go.bits .or .u8 x6_13 96)) % 256) == 0), true, false, true)) = some (r1, r2, r3, r4, r5) := by rw [if_pos rfl] at H; exact H
                  clear H
                  have H := H1
                  clear H1
                  simp only [Option.some.injEq, Prod.mk.injEq] at H
                  obtain ⟨rfl, rfl, rfl, rfl, rfl⟩ := H
                  have hnb27 := NB140_141.out
                  have hnc27 := NB141_140.out
                  have hcz28_0 : wc.cell? ⟨gb140, 0, none⟩ = some (.bool a1_0) := (blk_cell BK140.out 0).trans rfl
                  have hcz28_1 : wc.cell? ⟨gb140, 1, none⟩ = some (.bool true) := (blk_cell BK140.out 1).trans rfl
                  have hcz28_2 : wc.cell? ⟨gb140, 2, none⟩ = some (.bool a1_2) := (blk_cell BK140.out 2).trans rfl
                  have hcz28_3 : wc.cell? ⟨gb140, 3, none⟩ = some (.bool a1_3) := (blk_cell BK140.out 3).trans rfl
                  have hfz28_0 := blk_frozen BK140.out 0
                  have hfz28_1 := blk_frozen BK140.out 1
                  have hfz28_2 := blk_frozen BK140.out 2
                  have hfz28_3 := blk_frozen BK140.out 3
                  try go_wp2
                  have n0_ : Aside0 ((wc.setCell ⟨gb140, 3, none⟩ (.bool true)).heap[gb140]? = some (.cells #[.bool a1_0, .bool true, .bool a1_2, .bool true] 23 (0, 0))) := ⟨by (with_reducible repeat (first | refine blk_drewN ?_ _ | refine blk_drew ?_ | refine blk_alloc ?_ _)); refine blk_put (cs := #[.bool a1_0, .bool true, .bool a1_2, .bool a1_3]) ?_ 3 _ rfl; (with_reducible repeat (first | refine blk_drewN ?_ _ | refine blk_drew ?_ | refine blk_alloc ?_ _)); exact BK140.out⟩
                  have n1_ : Aside0 ((wc.setCell ⟨gb140, 3, none⟩ (.bool true)).heap[gb141]? = some (.cells #[.bool false, .bool false, .bool false, .bool false] 23 (0, 0))) := ⟨by (with_reducible repeat (first | refine blk_drewN ?_ _ | refine blk_drew ?_ | refine blk_alloc ?_ _)); refine blk_far ?_ NB141_140.out _; (with_reducible repeat (first | refine blk_drewN ?_ _ | refine blk_drew ?_ | refine blk_alloc ?_ _)); exact BK141.out⟩
                  have n2_ : Aside0 (Below w.heap.size w (wc.setCell ⟨gb140, 3, none⟩ (.bool true))) := ⟨by repeat (first | (with_reducible first | exact HB.out | apply below_alloc | apply pw_below_drewN | apply below_drew1 | refine below_set ?_ GE140.out | refine below_set ?_ GE141.out) | exact HB.out)⟩
                  (try clear BK140)
                  (try clear BK141)
                  (try clear HB)
                  generalize (wc.setCell ⟨gb140, 3, none⟩ (.bool true)) = w29 at n0_ n1_ n2_ ⊢
                  have BK140 := n0_
                  have BK141 := n1_
                  have HB := n2_
                  clear n0_ n1_ n2_
                  have n0_ := Aside0.mk (blk_drew BK140.out)
                  have n1_ := Aside0.mk (blk_drew BK141.out)
                  have n2_ := Aside0.mk (below_drew1 HB.out)
                  clear BK140
                  clear BK141
                  clear HB
                  have BK140 := n0_
                  have BK141 := n1_
                  have HB := n2_
                  clear n0_ n1_ n2_
                  refine start_ (n := 10) (S := fun w' => w'.cell? ⟨gb140, 0, none⟩ = some (.bool a1_0) ∧ w'.cell? ⟨gb140, 1, none⟩ = some (.bool true) ∧ w'.cell? ⟨gb140, 2, none⟩ = some (.bool a1_2) ∧ w'.cell? ⟨gb140, 3, none⟩ = some (.bool true)) (ds := []) #[false, false, false, false, false, false, false, false, false, false] (by kernel_rfl) rfl rfl ⟨(blk_cell BK140.out 0).trans rfl, (blk_cell BK140.out 1).trans rfl, (blk_cell BK140.out 2).trans rfl, (blk_cell BK140.out 3).trans rfl⟩ (fun hHeld => ?_); refine with_tabW alu_Daa.tab10 alu_Daa.bits10 (fun HT_ HW_ => ?_)
                  generalize w29.drew = w30 at BK140 BK141 HB hHeld ⊢
                  refine pure_ (i := 0) (N := some 41) (v := ?_) (a' := ?_) #[true, false, false, false, false, false, false, false, false, false] rfl rfl (any_of HT_.out (by kernel_rfl)) (fun _ _ _ h => h) (Or.inl ⟨by rfl, ?_⟩) ?_ ?_
                  rotate_left
                  · intro w'
                    go_simp
                    with_reducible rfl
                  rotate_left
                  · simp only [Act.put, List.setIfInBounds_toArray, List.set_cons_zero, List.set_cons_succ, i64_w, i32_w]
                    rfl
                  refine pure_ (i := 1) (N := some 42) (v := ?_) (a' := ?_) #[true, true, false, false, false, false, false, false, false, false] rfl rfl (any_of HT_.out (by kernel_rfl)) (fun _ _ _ h => h) (Or.inl ⟨by rfl, ?_⟩) ?_ ?_
                  rotate_left
                  · intro w'
                    go_simp
                    with_reducible rfl
                  rotate_left
                  · simp only [Act.put, List.setIfInBounds_toArray, List.set_cons_zero, List.set_cons_succ, i64_w, i32_w]
                    rfl
                  refine pure_ (i := 2) (N := some 43) (v := ?_) (a' := ?_) #[true, true, true, false, false, false, false, false, false, false] rfl rfl (any_of HT_.out (by kernel_rfl)) (fun _ _ _ h => h) (Or.inl ⟨by rfl, ?_⟩) ?_ ?_
                  rotate_left
                  · intro w'
                    go_simp
                    with_reducible rfl
                  rotate_left
                  · simp only [Act.put, List.setIfInBounds_toArray, List.set_cons_zero, List.set_cons_succ, i64_w, i32_w]
                    rfl
                  refine pure_ (i := 3) (N := some 44) (v := ?_) (a' := ?_) #[true, true, true, true, false, false, false, false, false, false] rfl rfl (any_of HT_.out (by kernel_rfl)) (fun _ _ _ h => h) (Or.inl ⟨by rfl, ?_⟩) ?_ ?_
                  rotate_left
                  · intro w'
                    go_simp
                    with_reducible rfl
                  rotate_left
                  · simp only [Act.put, List.setIfInBounds_toArray, List.set_cons_zero, List.set_cons_succ, i64_w, i32_w]
                    rfl
                  refine pure_ (i := 5) (N := some 46) (v := ?_) (a' := ?_) #[true, true, true, true, false, true, false, false, false, false] rfl rfl (any_of HT_.out (by kernel_rfl)) (fun _ _ _ h => h) (Or.inl ⟨by rfl, ?_⟩) ?_ ?_
                  rotate_left
                  · intro w'
                    go_simp
                    with_reducible rfl
                  rotate_left
                  · simp only [Act.put, List.setIfInBounds_toArray, List.set_cons_zero, List.set_cons_succ, i64_w, i32_w]
                    rfl
                  refine pure_ (i := 8) (N := some 4) (v := ?_) (a' := ?_) #[true, true, true, true, false, true, false, false, true, false] rfl rfl (any_of HT_.out (by kernel_rfl)) (fun _ _ _ h => h) (Or.inl ⟨by rfl, ?_⟩) ?_ ?_
                  rotate_left
                  · intro w'
                    go_simp
                    with_reducible rfl
                  rotate_left
                  · simp only [Act.put, List.setIfInBounds_toArray, List.set_cons_zero, List.set_cons_succ, i64_w, i32_w]
                    rfl
                  refine take_ (i := 4) (N := some 45) (v := ?_) (a' := ?_) #[true, true, true, true, true, true, false, false, true, false] rfl rfl (take_ofW HT_.out HW_.out (by kernel_rfl)) (fun _ _ _ h => h) (Or.inl ⟨by rfl, ?_⟩) hHeld ?_ ?_
                  rotate_left
                  · rintro w' ⟨s0, s1, s2, s3⟩
                    go_simp
                    with_reducible rfl
                  rotate_left
                  · simp only [Act.put, List.setIfInBounds_toArray, List.set_cons_zero, List.set_cons_succ, i64_w, i32_w]
                    rfl
                  refine take_ (i := 6) (N := some 47) (v := ?_) (a' := ?_) #[true, true, true, true, true, true, true, false, true, false] rfl rfl (take_ofW HT_.out HW_.out (by kernel_rfl)) (fun _ _ _ h => h) (Or.inl ⟨by rfl, ?_⟩) hHeld ?_ ?_
                  rotate_left
                  · rintro w' ⟨s0, s1, s2, s3⟩
                    go_simp
                    with_reducible rfl
                  rotate_left
                  · simp only [Act.put, List.setIfInBounds_toArray, List.set_cons_zero, List.set_cons_succ, i64_w, i32_w]
                    rfl
                  refine pure_ (i := 7) (N := some 48) (v := ?_) (a' := ?_) #[true, true, true, true, true, true, true, true, true, false] rfl rfl (any_of HT_.out (by kernel_rfl)) (fun _ _ _ h => h) (Or.inl ⟨by rfl, ?_⟩) ?_ ?_
                  rotate_left
                  · intro w'
                    go_simp
                    with_reducible rfl
                  rotate_left
                  · simp only [Act.put, List.setIfInBounds_toArray, List.set_cons_zero, List.set_cons_succ, i64_w, i32_w]
                    rfl
                  refine one_ (i := 9) (N := none) #[true, true, true, true, true, true, true, true, true, true] rfl rfl (one_of HT_.out (by kernel_rfl)) (by decide) (fun K hK => ?_)
                  have hs31 : w30.cell? ⟨gb141, 0, none⟩ = some (.bool false) := (blk_cell BK141.out 0).trans rfl
                  have hfs31 := blk_frozen BK141.out 0
                  have hns31_0 := NB140_141.out
                  have hms31_0 := NB141_140.out
                  have hs32 : w30.cell? ⟨gb141, 1, none⟩ = some (.bool false) := (blk_cell BK141.out 1).trans rfl
                  have hfs32 := blk_frozen BK141.out 1
                  have hns32_0 := NB140_141.out
                  have hms32_0 := NB141_140.out
                  have hs33 : w30.cell? ⟨gb141, 2, none⟩ = some (.bool false) := (blk_cell BK141.out 2).trans rfl
                  have hfs33 := blk_frozen BK141.out 2
                  have hns33_0 := NB140_141.out
                  have hms33_0 := NB141_140.out
                  have hs34 : w30.cell? ⟨gb141, 3, none⟩ = some (.bool false) := (blk_cell BK141.out 3).trans rfl
                  have hfs34 := blk_frozen BK141.out 3
                  have hns34_0 := NB140_141.out
                  have hms34_0 := NB141_140.out
                  refine skip_ (w1 := ?_) (by rfl) rfl ?_ ?_
                  rotate_left
                  · go_simp
                    rfl
                  refine hK.out _ _ ⟨((cell_far (p := ⟨gb141, _, none⟩) NB140_141.out _).trans (((cell_far (p := ⟨gb141, _, none⟩) NB140_141.out _).trans (((cell_far (p := ⟨gb141, _, none⟩) NB140_141.out _).trans (((cell_far (p := ⟨gb141, _, none⟩) NB140_141.out _).trans (hHeld.1)))))))), ((cell_far (p := ⟨gb141, _, none⟩) NB140_141.out _).trans (((cell_far (p := ⟨gb141, _, none⟩) NB140_141.out _).trans (((cell_far (p := ⟨gb141, _, none⟩) NB140_141.out _).trans (((cell_far (p := ⟨gb141, _, none⟩) NB140_141.out _).trans (hHeld.2.1)))))))), ((cell_far (p := ⟨gb141, _, none⟩) NB140_141.out _).trans (((cell_far (p := ⟨gb141, _, none⟩) NB140_141.out _).trans (((cell_far (p := ⟨gb141, _, none⟩) NB140_141.out _).trans (((cell_far (p := ⟨gb141, _, none⟩) NB140_141.out _).trans (hHeld.2.2.1)))))))), ((cell_far (p := ⟨gb141, _, none⟩) NB140_141.out _).trans (((cell_far (p := ⟨gb141, _, none⟩) NB140_141.out _).trans (((cell_far (p := ⟨gb141, _, none⟩) NB140_141.out _).trans (((cell_far (p := ⟨gb141, _, none⟩) NB140_141.out _).trans (hHeld.2.2.2))))))))⟩ (fun hHeld => ?_)
                  clear hK K
                  refine done_ (done_of HT_.out (by kernel_rfl)) ?_
                  try go_wp2
                  refine bodyPost_ret (results_tc rfl _ _ gb141 23 #[.bool (((a0 - (Go.bits .or .u8 x6_13 96)) % 256) == 0), .bool true, .bool false, .bool true] (0, 0) _ rfl (by (with_reducible repeat (first | refine blk_drewN ?_ _ | refine blk_drew ?_ | refine blk_alloc ?_ _)); refine blk_put (cs := #[.bool (((a0 - (Go.bits .or .u8 x6_13 96)) % 256) == 0), .bool true, .bool false, .bool false]) ?_ 3 _ rfl; (with_reducible repeat (first | refine blk_drewN ?_ _ | refine blk_drew ?_ | refine blk_alloc ?_ _)); refine blk_put (cs := #[.bool (((a0 - (Go.bits .or .u8 x6_13 96)) % 256) == 0), .bool true, .bool false, .bool false]) ?_ 2 _ rfl; (with_reducible repeat (first | refine blk_drewN ?_ _ | refine blk_drew ?_ | refine blk_alloc ?_ _)); refine blk_put (cs := #[.bool (((a0 - (Go.bits .or .u8 x6_13 96)) % 256) == 0), .bool false, .bool false, .bool false]) ?_ 1 _ rfl; (with_reducible repeat (first | refine blk_drewN ?_ _ | refine blk_drew ?_ | refine blk_alloc ?_ _)); refine blk_put (cs := #[.bool false, .bool false, .bool false, .bool false]) ?_ 0 _ rfl; (with_reducible repeat (first | refine blk_drewN ?_ _ | refine blk_drew ?_ | refine blk_alloc ?_ _)); exact BK141.out) Try.underlying23 rfl (by kernel_rfl)) rfl ?_
                  exact ⟨by first | rfl | (simp [errW_none, errW_some] <;> rfl) | (simp [*, errW_none, errW_some] <;> rfl), by repeat (first | (with_reducible first | exact HB.out | apply below_alloc | apply pw_below_drewN | apply below_drew1 | refine below_set ?_ GE140.out | refine below_set ?_ GE141.out) | exact HB.out)⟩
                · replace c26 := Bool.eq_false_iff.mpr c26
                  subst c26
                  have H1 : (some ((a0 + (Go.bits .or .u8 x6_13 96)) % 256, (((a0 + (Go.bits .or .u8 x6_13 96)) % 256) == 0), false, false, true)) = some (r1, r2, r3, r4, r5) := by rw [if_neg (show ¬ (false = true) by decide)] at H; exact H
                  clear H
                  have H := H1
                  clear H1
                  simp only [Option.some.injEq, Prod.mk.injEq] at H
                  obtain ⟨rfl, rfl, rfl, rfl, rfl⟩ := H
                  have hnb35 := NB140_141.out
                  have hnc35 := NB141_140.out
                  have hcz36_0 : wc.cell? ⟨gb140, 0, none⟩ = some (.bool a1_0) := (blk_cell BK140.out 0).trans rfl
                  have hcz36_1 : wc.cell? ⟨gb140, 1, none⟩ = some (.bool false) := (blk_cell BK140.out 1).trans rfl
                  have hcz36_2 : wc.cell? ⟨gb140, 2, none⟩ = some (.bool a1_2) := (blk_cell BK140.out 2).trans rfl
                  have hcz36_3 : wc.cell? ⟨gb140, 3, none⟩ = some (.bool a1_3) := (blk_cell BK140.out 3).trans rfl
                  have hfz36_0 := blk_frozen BK140.out 0
                  have hfz36_1 := blk_frozen BK140.out 1
                  have hfz36_2 := blk_frozen BK140.out 2
                  have hfz36_3 := blk_frozen BK140.out 3
                  try go_wp2
                  have n0_ : Aside0 ((wc.setCell ⟨gb140, 3, none⟩ (.bool true)).heap[gb140]? = some (.cells #[.bool a1_0, .bool false, .bool a1_2, .bool true] 23 (0, 0))) := ⟨by (with_reducible repeat (first | refine blk_drewN ?_ _ | refine blk_drew ?_ | refine blk_alloc ?_ _)); refine blk_put (cs := #[.bool a1_0, .bool false, .bool a1_2, .bool a1_3]) ?_ 3 _ rfl; (with_reducible repeat (first | refine blk_drewN ?_ _ | refine blk_drew ?_ | refine blk_alloc ?_ _)); exact BK140.out⟩
                  have n1_ : Aside0 ((wc.setCell ⟨gb140, 3, none⟩ (.bool true)).heap[gb141]? = some (.cells #[.bool false, .bool false, .bool false, .bool false] 23 (0, 0))) := ⟨by (with_reducible repeat (first | refine blk_drewN ?_ _ | refine blk_drew ?_ | refine blk_alloc ?_ _)); refine blk_far ?_ NB141_140.out _; (with_reducible repeat (first | refine blk_drewN ?_ _ | refine blk_drew ?_ | refine blk_alloc ?_ _)); exact BK141.out⟩
                  have n2_ : Aside0 (Below w.heap.size w (wc.setCell ⟨gb140, 3, none⟩ (.bool true))) := ⟨by repeat (first | (with_reducible first | exact HB.out | apply below_alloc | apply pw_below_drewN | apply below_drew1 | refine below_set ?_ GE140.out | refine below_set ?_ GE141.out) | exact HB.out)⟩
                  (try clear BK140)
                  (try clear BK141)
                  (try clear HB)
                  generalize (wc.setCell ⟨gb140, 3, none⟩ (.bool true)) = w37 at n0_ n1_ n2_ ⊢
                  have BK140 := n0_
                  have BK141 := n1_
                  have HB := n2_
                  clear n0_ n1_ n2_
                  have n0_ := Aside0.mk (blk_drew BK140.out)
                  have n1_ := Aside0.mk (blk_drew BK141.out)
                  have n2_ := Aside0.mk (below_drew1 HB.out)
                  clear BK140
                  clear BK141
                  clear HB
                  have BK140 := n0_
                  have BK141 := n1_
                  have HB := n2_
                  clear n0_ n1_ n2_
                  refine start_ (n := 10) (S := fun w' => w'.cell? ⟨gb140, 0, none⟩ = some (.bool a1_0) ∧ w'.cell? ⟨gb140, 1, none⟩ = some (.bool false) ∧ w'.cell? ⟨gb140, 2, none⟩ = some (.bool a1_2) ∧ w'.cell? ⟨gb140, 3, none⟩ = some (.bool true)) (ds := []) #[false, false, false, false, false, false, false, false, false, false] (by kernel_rfl) rfl rfl ⟨(blk_cell BK140.out 0).trans rfl, (blk_cell BK140.out 1).trans rfl, (blk_cell BK140.out 2).trans rfl, (blk_cell BK140.out 3).trans rfl⟩ (fun hHeld => ?_); refine with_tabW alu_Daa.tab10 alu_Daa.bits10 (fun HT_ HW_ => ?_)
                  generalize w37.drew = w38 at BK140 BK141 HB hHeld ⊢
                  refine pure_ (i := 0) (N := some 41) (v := ?_) (a' := ?_) #[true, false, false, false, false, false, false, false, false, false] rfl rfl (any_of HT_.out (by kernel_rfl)) (fun _ _ _ h => h) (Or.inl ⟨by rfl, ?_⟩) ?_ ?_
                  rotate_left
                  · intro w'
                    go_simp
                    with_reducible rfl
                  rotate_left
                  · simp only [Act.put, List.setIfInBounds_toArray, List.set_cons_zero, List.set_cons_succ, i64_w, i32_w]
                    rfl
                  refine pure_ (i := 1) (N := some 42) (v := ?_) (a' := ?_) #[true, true, false, false, false, false, false, false, false, false] rfl rfl (any_of HT_.out (by kernel_rfl)) (fun _ _ _ h => h) (Or.inl ⟨by rfl, ?_⟩) ?_ ?_
                  rotate_left
                  · intro w'
                    go_simp
                    with_reducible rfl
                  rotate_left
                  · simp only [Act.put, List.setIfInBounds_toArray, List.set_cons_zero, List.set_cons_succ, i64_w, i32_w]
                    rfl
                  refine pure_ (i := 2) (N := some 43) (v := ?_) (a' := ?_) #[true, true, true, false, false, false, false, false, false, false] rfl rfl (any_of HT_.out (by kernel_rfl)) (fun _ _ _ h => h) (Or.inl ⟨by rfl, ?_⟩) ?_ ?_
                  rotate_left
                  · intro w'
                    go_simp
                    with_reducible rfl
                  rotate_left
                  · simp only [Act.put, List.setIfInBounds_toArray, List.set_cons_zero, List.set_cons_succ, i64_w, i32_w]
                    rfl
                  refine pure_ (i := 3) (N := some 44) (v := ?_) (a' := ?_) #[true, true, true, true, false, false, false, false, false, false] rfl rfl (any_of HT_.out (by kernel_rfl)) (fun _ _ _ h => h) (Or.inl ⟨by rfl, ?_⟩) ?_ ?_
                  rotate_left
                  · intro w'
                    go_simp
                    with_reducible rfl
                  rotate_left
                  · simp only [Act.put, List.setIfInBounds_toArray, List.set_cons_zero, List.set_cons_succ, i64_w, i32_w]
                    rfl
                  refine pure_ (i := 5) (N := some 46) (v := ?_) (a' := ?_) #[true, true, true, true, false, true, false, false, false, false] rfl rfl (any_of HT_.out (by kernel_rfl)) (fun _ _ _ h => h) (Or.inl ⟨by rfl, ?_⟩) ?_ ?_
                  rotate_left
                  · intro w'
                    go_simp
                    with_reducible rfl
                  rotate_left
                  · simp only [Act.put, List.setIfInBounds_toArray, List.set_cons_zero, List.set_cons_succ, i64_w, i32_w]
                    rfl
                  refine pure_ (i := 8) (N := some 4) (v := ?_) (a' := ?_) #[true, true, true, true, false, true, false, false, true, false] rfl rfl (any_of HT_.out (by kernel_rfl)) (fun _ _ _ h => h) (Or.inl ⟨by rfl, ?_⟩) ?_ ?_
                  rotate_left
                  · intro w'
                    go_simp
                    with_reducible rfl
                  rotate_left
                  · simp only [Act.put, List.setIfInBounds_toArray, List.set_cons_zero, List.set_cons_succ, i64_w, i32_w]
                    rfl
                  refine take_ (i := 4) (N := some 45) (v := ?_) (a' := ?_) #[true, true, true, true, true, true, false, false, true, false] rfl rfl (take_ofW HT_.out HW_.out (by kernel_rfl)) (fun _ _ _ h => h) (Or.inl ⟨by rfl, ?_⟩) hHeld ?_ ?_
                  rotate_left
                  · rintro w' ⟨s0, s1, s2, s3⟩
                    go_simp
                    with_reducible rfl
                  rotate_left
                  · simp only [Act.put, List.setIfInBounds_toArray, List.set_cons_zero, List.set_cons_succ, i64_w, i32_w]
                    rfl
                  refine take_ (i := 6) (N := some 47) (v := ?_) (a' := ?_) #[true, true, true, true, true, true, true, false, true, false] rfl rfl (take_ofW HT_.out HW_.out (by kernel_rfl)) (fun _ _ _ h => h) (Or.inl ⟨by rfl, ?_⟩) hHeld ?_ ?_
                  rotate_left
                  · rintro w' ⟨s0, s1, s2, s3⟩
                    go_simp
                    with_reducible rfl
                  rotate_left
                  · simp only [Act.put, List.setIfInBounds_toArray, List.set_cons_zero, List.set_cons_succ, i64_w, i32_w]
                    rfl
                  refine pure_ (i := 7) (N := some 48) (v := ?_) (a' := ?_) #[true, true, true, true, true, true, true, true, true, false] rfl rfl (any_of HT_.out (by kernel_rfl)) (fun _ _ _ h => h) (Or.inl ⟨by rfl, ?_⟩) ?_ ?_
                  rotate_left
                  · intro w'
                    go_simp
                    with_reducible rfl
                  rotate_left
                  · simp only [Act.put, List.setIfInBounds_toArray, List.set_cons_zero, List.set_cons_succ, i64_w, i32_w]
                    rfl
                  refine one_ (i := 9) (N := none) #[true, true, true, true, true, true, true, true, true, true] rfl rfl (one_of HT_.out (by kernel_rfl)) (by decide) (fun K hK => ?_)
                  have hs39 : w38.cell? ⟨gb141, 0, none⟩ = some (.bool false) := (blk_cell BK141.out 0).trans rfl
                  have hfs39 := blk_frozen BK141.out 0
                  have hns39_0 := NB140_141.out
                  have hms39_0 := NB141_140.out
                  have hs40 : w38.cell? ⟨gb141, 1, none⟩ = some (.bool false) := (blk_cell BK141.out 1).trans rfl
                  have hfs40 := blk_frozen BK141.out 1
                  have hns40_0 := NB140_141.out
                  have hms40_0 := NB141_140.out
                  have hs41 : w38.cell? ⟨gb141, 2, none⟩ = some (.bool false) := (blk_cell BK141.out 2).trans rfl
                  have hfs41 := blk_frozen BK141.out 2
                  have hns41_0 := NB140_141.out
                  have hms41_0 := NB141_140.out
                  have hs42 : w38.cell? ⟨gb141, 3, none⟩ = some (.bool false) := (blk_cell BK141.out 3).trans rfl
                  have hfs42 := blk_frozen BK141.out 3
                  have hns42_0 := NB140_141.out
                  have hms42_0 := NB141_140.out
                  refine skip_ (w1 := ?_) (by rfl) rfl ?_ ?_
                  rotate_left
                  · go_simp
                    rfl
                  refine hK.out _ _ ⟨((cell_far (p := ⟨gb141, _, none⟩) NB140_141.out _).trans (((cell_far (p := ⟨gb141, _, none⟩) NB140_141.out _).trans (((cell_far (p := ⟨gb141, _, none⟩) NB140_141.out _).trans (((cell_far (p := ⟨gb141, _, none⟩) NB140_141.out _).trans (hHeld.1)))))))), ((cell_far (p := ⟨gb141, _, none⟩) NB140_141.out _).trans (((cell_far (p := ⟨gb141, _, none⟩) NB140_141.out _).trans (((cell_far (p := ⟨gb141, _, none⟩) NB140_141.out _).trans (((cell_far (p := ⟨gb141, _, none⟩) NB140_141.out _).trans (hHeld.2.1)))))))), ((cell_far (p := ⟨gb141, _, none⟩) NB140_141.out _).trans (((cell_far (p := ⟨gb141, _, none⟩) NB140_141.out _).trans (((cell_far (p := ⟨gb141, _, none⟩) NB140_141.out _).trans (((cell_far (p := ⟨gb141, _, none⟩) NB140_141.out _).trans (hHeld.2.2.1)))))))), ((cell_far (p := ⟨gb141, _, none⟩) NB140_141.out _).trans (((cell_far (p := ⟨gb141, _, none⟩) NB140_141.out _).trans (((cell_far (p := ⟨gb141, _, none⟩) NB140_141.out _).trans (((cell_far (p := ⟨gb141, _, none⟩) NB140_141.out _).trans (hHeld.2.2.2))))))))⟩ (fun hHeld => ?_)
                  clear hK K
                  refine done_ (done_of HT_.out (by kernel_rfl)) ?_
                  try go_wp2
                  refine bodyPost_ret (results_tc rfl _ _ gb141 23 #[.bool (((a0 + (Go.bits .or .u8 x6_13 96)) % 256) == 0), .bool false, .bool false, .bool true] (0, 0) _ rfl (by (with_reducible repeat (first | refine blk_drewN ?_ _ | refine blk_drew ?_ | refine blk_alloc ?_ _)); refine blk_put (cs := #[.bool (((a0 + (Go.bits .or .u8 x6_13 96)) % 256) == 0), .bool false, .bool false, .bool false]) ?_ 3 _ rfl; (with_reducible repeat (first | refine blk_drewN ?_ _ | refine blk_drew ?_ | refine blk_alloc ?_ _)); refine blk_put (cs := #[.bool (((a0 + (Go.bits .or .u8 x6_13 96)) % 256) == 0), .bool false, .bool false, .bool false]) ?_ 2 _ rfl; (with_reducible repeat (first | refine blk_drewN ?_ _ | refine blk_drew ?_ | refine blk_alloc ?_ _)); refine blk_put (cs := #[.bool (((a0 + (Go.bits .or .u8 x6_13 96)) % 256) == 0), .bool false, .bool false, .bool false]) ?_ 1 _ rfl; (with_reducible repeat (first | refine blk_drewN ?_ _ | refine blk_drew ?_ | refine blk_alloc ?_ _)); refine blk_put (cs := #[.bool false, .bool false, .bool false, .bool false]) ?_ 0 _ rfl; (with_reducible repeat (first | refine blk_drewN ?_ _ | refine blk_drew ?_ | refine blk_alloc ?_ _)); exact BK141.out) Try.underlying23 rfl (by kernel_rfl)) rfl ?_
                  exact ⟨by first | rfl | (simp [errW_none, errW_some] <;> rfl) | (simp [*, errW_none, errW_some] <;> rfl), by repeat (first | (with_reducible first | exact HB.out | apply below_alloc | apply pw_below_drewN | apply below_drew1 | refine below_set ?_ GE140.out | refine below_set ?_ GE141.out) | exact HB.out)⟩
              · replace c25 := Bool.eq_false_iff.mpr c25
                subst c25
                have H1 : (if a1_1 = true then (some ((a0 - x6_13) % 256, (((a0 - x6_13) % 256) == 0), a1_1, false, a1_3)) else (some ((a0 + x6_13) % 256, (((a0 + x6_13) % 256) == 0), a1_1, false, a1_3))) = some (r1, r2, r3, r4, r5) := by rw [if_neg (show ¬ (false = true) by decide)] at H; exact H
                clear H
                have H := H1
                clear H1
                by_cases c43 : a1_1 = true
                · subst c43
                  have H1 : (some ((a0 - x6_13) % 256, (((a0 - x6_13) % 256) == 0), true, false, a1_3)) = some (r1, r2, r3, r4, r5) := by rw [if_pos rfl] at H; exact H
                  clear H
                  have H := H1
                  clear H1
                  simp only [Option.some.injEq, Prod.mk.injEq] at H
                  obtain ⟨rfl, rfl, rfl, rfl, rfl⟩ := H
                  have hnb44 := NB140_141.out
                  have hnc44 := NB141_140.out
                  have hcz45_0 : wc.cell? ⟨gb140, 0, none⟩ = some (.bool a1_0) := (blk_cell BK140.out 0).trans rfl
                  have hcz45_1 : wc.cell? ⟨gb140, 1, none⟩ = some (.bool true) := (blk_cell BK140.out 1).trans rfl
                  have hcz45_2 : wc.cell? ⟨gb140, 2, none⟩ = some (.bool a1_2) := (blk_cell BK140.out 2).trans rfl
                  have hcz45_3 : wc.cell? ⟨gb140, 3, none⟩ = some (.bool a1_3) := (blk_cell BK140.out 3).trans rfl
                  have hfz45_0 := blk_frozen BK140.out 0
                  have hfz45_1 := blk_frozen BK140.out 1
                  have hfz45_2 := blk_frozen BK140.out 2
                  have hfz45_3 := blk_frozen BK140.out 3
                  try go_wp2
                  have n0_ := Aside0.mk (blk_drew BK140.out)
                  have n1_ := Aside0.mk (blk_drew BK141.out)
                  have n2_ := Aside0.mk (below_drew1 HB.out)
                  clear BK140
                  clear BK141
                  clear HB
                  have BK140 := n0_
                  have BK141 := n1_
                  have HB := n2_
                  clear n0_ n1_ n2_
                  refine start_ (n := 10) (S := fun w' => w'.cell? ⟨gb140, 0, none⟩ = some (.bool a1_0) ∧ w'.cell? ⟨gb140, 1, none⟩ = some (.bool true) ∧ w'.cell? ⟨gb140, 2, none⟩ = some (.bool a1_2) ∧ w'.cell? ⟨gb140, 3, none⟩ = some (.bool a1_3)) (ds := []) #[false, false, false, false, false, false, false, false, false, false] (by kernel_rfl) rfl rfl ⟨(blk_cell BK140.out 0).trans rfl, (blk_cell BK140.out 1).trans rfl, (blk_cell BK140.out 2).trans rfl, (blk_cell BK140.out 3).trans rfl⟩ (fun hHeld => ?_); refine with_tabW alu_Daa.tab10 alu_Daa.bits10 (fun HT_ HW_ => ?_)
                  generalize wc.drew = w46 at BK140 BK141 HB hHeld ⊢
                  refine pure_ (i := 0) (N := some 41) (v := ?_) (a' := ?_) #[true, false, false, false, false, false, false, false, false, false] rfl rfl (any_of HT_.out (by kernel_rfl)) (fun _ _ _ h => h) (Or.inl ⟨by rfl, ?_⟩) ?_ ?_
                  rotate_left
                  · intro w'
                    go_simp
                    with_reducible rfl
                  rotate_left
                  · simp only [Act.put, List.setIfInBounds_toArray, List.set_cons_zero, List.set_cons_succ, i64_w, i32_w]
                    rfl
                  refine pure_ (i := 1) (N := some 42) (v := ?_) (a' := ?_) #[true, true, false, false, false, false, false, false, false, false] rfl rfl (any_of HT_.out (by kernel_rfl)) (fun _ _ _ h => h) (Or.inl ⟨by rfl, ?_⟩) ?_ ?_
                  rotate_left
                  · intro w'
                    go_simp
                    with_reducible rfl
                  rotate_left
                  · simp only [Act.put, List.setIfInBounds_toArray, List.set_cons_zero, List.set_cons_succ, i64_w, i32_w]
                    rfl
                  refine pure_ (i := 2) (N := some 43) (v := ?_) (a' := ?_) #[true, true, true, false, false, false, false, false, false, false] rfl rfl (any_of HT_.out (by kernel_rfl)) (fun _ _ _ h => h) (Or.inl ⟨by rfl, ?_⟩) ?_ ?_
                  rotate_left
                  · intro w'
                    go_simp
                    with_reducible rfl
                  rotate_left
                  · simp only [Act.put, List.setIfInBounds_toArray, List.set_cons_zero, List.set_cons_succ, i64_w, i32_w]
                    rfl
                  refine pure_ (i := 3) (N := some 44) (v := ?_) (a' := ?_) #[true, true, true, true, false, false, false, false, false, false] rfl rfl (any_of HT_.out (by kernel_rfl)) (fun _ _ _ h => h) (Or.inl ⟨by rfl, ?_⟩) ?_ ?_
                  rotate_left
                  · intro w'
                    go_simp
                    with_reducible rfl
                  rotate_left
                  · simp only [Act.put, List.setIfInBounds_toArray, List.set_cons_zero, List.set_cons_succ, i64_w, i32_w]
                    rfl
                  refine pure_ (i := 5) (N := some 46) (v := ?_) (a' := ?_) #[true, true, true, true, false, true, false, false, false, false] rfl rfl (any_of HT_.out (by kernel_rfl)) (fun _ _ _ h => h) (Or.inl ⟨by rfl, ?_⟩) ?_ ?_
                  rotate_left
                  · intro w'
                    go_simp
                    with_reducible rfl
                  rotate_left
                  · simp only [Act.put, List.setIfInBounds_toArray, List.set_cons_zero, List.set_cons_succ, i64_w, i32_w]
                    rfl
                  refine pure_ (i := 8) (N := some 4) (v := ?_) (a' := ?_) #[true, true, true, true, false, true, false, false, true, false] rfl rfl (any_of HT_.out (by kernel_rfl)) (fun _ _ _ h => h) (Or.inl ⟨by rfl, ?_⟩) ?_ ?_
                  rotate_left
                  · intro w'
                    go_simp
                    with_reducible rfl
                  rotate_left
                  · simp only [Act.put, List.setIfInBounds_toArray, List.set_cons_zero, List.set_cons_succ, i64_w, i32_w]
                    rfl
                  refine take_ (i := 4) (N := some 45) (v := ?_) (a' := ?_) #[true, true, true, true, true, true, false, false, true, false] rfl rfl (take_ofW HT_.out HW_.out (by kernel_rfl)) (fun _ _ _ h => h) (Or.inl ⟨by rfl, ?_⟩) hHeld ?_ ?_
                  rotate_left
                  · rintro w' ⟨s0, s1, s2, s3⟩
                    go_simp
                    with_reducible rfl
                  rotate_left
                  · simp only [Act.put, List.setIfInBounds_toArray, List.set_cons_zero, List.set_cons_succ, i64_w, i32_w]
                    rfl
                  refine take_ (i := 6) (N := some 47) (v := ?_) (a' := ?_) #[true, true, true, true, true, true, true, false, true, false] rfl rfl (take_ofW HT_.out HW_.out (by kernel_rfl)) (fun _ _ _ h => h) (Or.inl ⟨by rfl, ?_⟩) hHeld ?_ ?_
                  rotate_left
                  · rintro w' ⟨s0, s1, s2, s3⟩
                    go_simp
                    with_reducible rfl
                  rotate_left
                  · simp only [Act.put, List.setIfInBounds_toArray, List.set_cons_zero, List.set_cons_succ, i64_w, i32_w]
                    rfl
                  refine pure_ (i := 7) (N := some 48) (v := ?_) (a' := ?_) #[true, true, true, true, true, true, true, true, true, false] rfl rfl (any_of HT_.out (by kernel_rfl)) (fun _ _ _ h => h) (Or.inl ⟨by rfl, ?_⟩) ?_ ?_
                  rotate_left
                  · intro w'
                    go_simp
                    with_reducible rfl
                  rotate_left
                  · simp only [Act.put, List.setIfInBounds_toArray, List.set_cons_zero, List.set_cons_succ, i64_w, i32_w]
                    rfl
                  refine one_ (i := 9) (N := none) #[true, true, true, true, true, true, true, true, true, true] rfl rfl (one_of HT_.out (by kernel_rfl)) (by decide) (fun K hK => ?_)
                  have hs47 : w46.cell? ⟨gb141, 0, none⟩ = some (.bool false) := (blk_cell BK141.out 0).trans rfl
                  have hfs47 := blk_frozen BK141.out 0
                  have hns47_0 := NB140_141.out
                  have hms47_0 := NB141_140.out
                  have hs48 : w46.cell? ⟨gb141, 1, none⟩ = some (.bool false) := (blk_cell BK141.out 1).trans rfl
                  have hfs48 := blk_frozen BK141.out 1
                  have hns48_0 := NB140_141.out
                  have hms48_0 := NB141_140.out
                  have hs49 : w46.cell? ⟨gb141, 2, none⟩ = some (.bool false) := (blk_cell BK141.out 2).trans rfl
                  have hfs49 := blk_frozen BK141.out 2
                  have hns49_0 := NB140_141.out
                  have hms49_0 := NB141_140.out
                  have hs50 : w46.cell? ⟨gb141, 3, none⟩ = some (.bool false) := (blk_cell BK141.out 3).trans rfl
                  have hfs50 := blk_frozen BK141.out 3
                  have hns50_0 := NB140_141.out
                  have hms50_0 := NB141_140.out
                  refine skip_ (w1 := ?_) (by rfl) rfl ?_ ?_
                  rotate_left
                  · go_simp
                    rfl
                  refine hK.out _ _ ⟨((cell_far (p := ⟨gb141, _, none⟩) NB140_141.out _).trans (((cell_far (p := ⟨gb141, _, none⟩) NB140_141.out _).trans (((cell_far (p := ⟨gb141, _, none⟩) NB140_141.out _).trans (((cell_far (p := ⟨gb141, _, none⟩) NB140_141.out _).trans (hHeld.1)))))))), ((cell_far (p := ⟨gb141, _, none⟩) NB140_141.out _).trans (((cell_far (p := ⟨gb141, _, none⟩) NB140_141.out _).trans (((cell_far (p := ⟨gb141, _, none⟩) NB140_141.out _).trans (((cell_far (p := ⟨gb141, _, none⟩) NB140_141.out _).trans (hHeld.2.1)))))))), ((cell_far (p := ⟨gb141, _, none⟩) NB140_141.out _).trans (((cell_far (p := ⟨gb141, _, none⟩) NB140_141.out _).trans (((cell_far (p := ⟨gb141, _, none⟩) NB140_141.out _).trans (((cell_far (p := ⟨gb141, _, none⟩) NB140_141.out _).trans (hHeld.2.2.1)))))))), ((cell_far (p := ⟨gb141, _, none⟩) NB140_141.out _).trans (((cell_far (p := ⟨gb141, _, none⟩) NB140_141.out _).trans (((cell_far (p := ⟨gb141, _, none⟩) NB140_141.out _).trans (((cell_far (p := ⟨gb141, _, none⟩) NB140_141.out _).trans (hHeld.2.2.2))))))))⟩ (fun hHeld => ?_)
                  clear hK K
                  refine done_ (done_of HT_.out (by kernel_rfl)) ?_
                  try go_wp2
                  refine bodyPost_ret (results_tc rfl _ _ gb141 23 #[.bool (((a0 - x6_13) % 256) == 0), .bool true, .bool false, .bool a1_3] (0, 0) _ rfl (by (with_reducible repeat (first | refine blk_drewN ?_ _ | refine blk_drew ?_ | refine blk_alloc ?_ _)); refine blk_put (cs := #[.bool (((a0 - x6_13) % 256) == 0), .bool true, .bool false, .bool false]) ?_ 3 _ rfl; (with_reducible repeat (first | refine blk_drewN ?_ _ | refine blk_drew ?_ | refine blk_alloc ?_ _)); refine blk_put (cs := #[.bool (((a0 - x6_13) % 256) == 0), .bool true, .bool false, .bool false]) ?_ 2 _ rfl; (with_reducible repeat (first | refine blk_drewN ?_ _ | refine blk_drew ?_ | refine blk_alloc ?_ _)); refine blk_put (cs := #[.bool (((a0 - x6_13) % 256) == 0), .bool false, .bool false, .bool false]) ?_ 1 _ rfl; (with_reducible repeat (first | refine blk_drewN ?_ _ | refine blk_drew ?_ | refine blk_alloc ?_ _)); refine blk_put (cs := #[.bool false, .bool false, .bool false, .bool false]) ?_ 0 _ rfl; (with_reducible repeat (first | refine blk_drewN ?_ _ | refine blk_drew ?_ | refine blk_alloc ?_ _)); exact BK141.out) Try.underlying23 rfl (by kernel_rfl)) rfl ?_
                  exact ⟨by first | rfl | (simp [errW_none, errW_some] <;> rfl) | (simp [*, errW_none, errW_some] <;> rfl), by repeat (first | (with_reducible first | exact HB.out | apply below_alloc | apply pw_below_drewN | apply below_drew1 | refine below_set ?_ GE140.out | refine below_set ?_ GE141.out) | exact HB.out)⟩
                · replace c43 := Bool.eq_false_iff.mpr c43
                  subst c43
                  have H1 : (some ((a0 + x6_13) % 256, (((a0 + x6_13) % 256) == 0), false, false, a1_3)) = some (r1, r2, r3, r4, r5) := by rw [if_neg (show ¬ (false = true) by decide)] at H; exact H
                  clear H
                  have H := H1
                  clear H1
                  simp only [Option.some.injEq, Prod.mk.injEq] at H
                  obtain ⟨rfl, rfl, rfl, rfl, rfl⟩ := H
                  have hnb51 := NB140_141.out
                  have hnc51 := NB141_140.out
                  have hcz52_0 : wc.cell? ⟨gb140, 0, none⟩ = some (.bool a1_0) := (blk_cell BK140.out 0).trans rfl
                  have hcz52_1 : wc.cell? ⟨gb140, 1, none⟩ = some (.bool false) := (blk_cell BK140.out 1).trans rfl
                  have hcz52_2 : wc.cell? ⟨gb140, 2, none⟩ = some (.bool a1_2) := (blk_cell BK140.out 2).trans rfl
                  have hcz52_3 : wc.cell? ⟨gb140, 3, none⟩ = some (.bool a1_3) := (blk_cell BK140.out 3).trans rfl
                  have hfz52_0 := blk_frozen BK140.out 0
                  have hfz52_1 := blk_frozen BK140.out 1
                  have hfz52_2 := blk_frozen BK140.out 2
                  have hfz52_3 := blk_frozen BK140.out 3
                  try go_wp2
                  have n0_ := Aside0.mk (blk_drew BK140.out)
                  have n1_ := Aside0.mk (blk_drew BK141.out)
                  have n2_ := Aside0.mk (below_drew1 HB.out)
                  clear BK140
                  clear BK141
                  clear HB
                  have BK140 := n0_
                  have BK141 := n1_
                  have HB := n2_
                  clear n0_ n1_ n2_
                  refine start_ (n := 10) (S := fun w' => w'.cell? ⟨gb140, 0, none⟩ = some (.bool a1_0) ∧ w'.cell? ⟨gb140, 1, none⟩ = some (.bool false) ∧ w'.cell? ⟨gb140, 2, none⟩ = some (.bool a1_2) ∧ w'.cell? ⟨gb140, 3, none⟩ = some (.bool a1_3)) (ds := []) #[false, false, false, false, false, false, false, false, false, false] (by kernel_rfl) rfl rfl ⟨(blk_cell BK140.out 0).trans rfl, (blk_cell BK140.out 1).trans rfl, (blk_cell BK140.out 2).trans rfl, (blk_cell BK140.out 3).trans rfl⟩ (fun hHeld => ?_); refine with_tabW alu_Daa.tab10 alu_Daa.bits10 (fun HT_ HW_ => ?_)
                  generalize wc.drew = w53 at BK140 BK141 HB hHeld ⊢
                  refine pure_ (i := 0) (N := some 41) (v := ?_) (a' := ?_) #[true, false, false, false, false, false, false, false, false, false] rfl rfl (any_of HT_.out (by kernel_rfl)) (fun _ _ _ h => h) (Or.inl ⟨by rfl, ?_⟩) ?_ ?_
                  rotate_left
                  · intro w'
                    go_simp
                    with_reducible rfl
                  rotate_left
                  · simp only [Act.put, List.setIfInBounds_toArray, List.set_cons_zero, List.set_cons_succ, i64_w, i32_w]
                    rfl
                  refine pure_ (i := 1) (N := some 42) (v := ?_) (a' := ?_) #[true, true, false, false, false, false, false, false, false, false] rfl rfl (any_of HT_.out (by kernel_rfl)) (fun _ _ _ h => h) (Or.inl ⟨by rfl, ?_⟩) ?_ ?_
                  rotate_left
                  · intro w'
                    go_simp
                    with_reducible rfl
                  rotate_left
                  · simp only [Act.put, List.setIfInBounds_toArray, List.set_cons_zero, List.set_cons_succ, i64_w, i32_w]
                    rfl
                  refine pure_ (i := 2) (N := some 43) (v := ?_) (a' := ?_) #[true, true, true, false, false, false, false, false, false, false] rfl rfl (any_of HT_.out (by kernel_rfl)) (fun _ _ _ h => h) (Or.inl ⟨by rfl, ?_⟩) ?_ ?_
                  rotate_left
                  · intro w'
                    go_simp
                    with_reducible rfl
                  rotate_left
                  · simp only [Act.put, List.setIfInBounds_toArray, List.set_cons_zero, List.set_cons_succ, i64_w, i32_w]
                    rfl
                  refine pure_ (i := 3) (N := some 44) (v := ?_) (a' := ?_) #[true, true, true, true, false, false, false, false, false, false] rfl rfl (any_of HT_.out (by kernel_rfl)) (fun _ _ _ h => h) (Or.inl ⟨by rfl, ?_⟩) ?_ ?_
                  rotate_left
                  · intro w'
                    go_simp
                    with_reducible rfl
                  rotate_left
                  · simp only [Act.put, List.setIfInBounds_toArray, List.set_cons_zero, List.set_cons_succ, i64_w, i32_w]
                    rfl
                  refine pure_ (i := 5) (N := some 46) (v := ?_) (a' := ?_) #[true, true, true, true, false, true, false, false, false, false] rfl rfl (any_of HT_.out (by kernel_rfl)) (fun _ _ _ h => h) (Or.inl ⟨by rfl, ?_⟩) ?_ ?_
                  rotate_left
                  · intro w'
                    go_simp
                    with_reducible rfl
                  rotate_left
                  · simp only [Act.put, List.setIfInBounds_toArray, List.set_cons_zero, List.set_cons_succ, i64_w, i32_w]
                    rfl
                  refine pure_ (i := 8) (N := some 4) (v := ?_) (a' := ?_) #[true, true, true, true, false, true, false, false, true, false] rfl rfl (any_of HT_.out (by kernel_rfl)) (fun _ _ _ h => h) (Or.inl ⟨by rfl, ?_⟩) ?_ ?_
                  rotate_left
                  · intro w'
                    go_simp
                    with_reducible rfl
                  rotate_left
                  · simp only [Act.put, List.setIfInBounds_toArray, List.set_cons_zero, List.set_cons_succ, i64_w, i32_w]
                    rfl
                  refine take_ (i := 4) (N := some 45) (v := ?_) (a' := ?_) #[true, true, true, true, true, true, false, false, true, false] rfl rfl (take_ofW HT_.out HW_.out (by kernel_rfl)) (fun _ _ _ h => h) (Or.inl ⟨by rfl, ?_⟩) hHeld ?_ ?_
                  rotate_left
                  · rintro w' ⟨s0, s1, s2, s3⟩
                    go_simp
                    with_reducible rfl
                  rotate_left
                  · simp only [Act.put, List.setIfInBounds_toArray, List.set_cons_zero, List.set_cons_succ, i64_w, i32_w]
                    rfl
                  refine take_ (i := 6) (N := some 47) (v := ?_) (a' := ?_) #[true, true, true, true, true, true, true, false, true, false] rfl rfl (take_ofW HT_.out HW_.out (by kernel_rfl)) (fun _ _ _ h => h) (Or.inl ⟨by rfl, ?_⟩) hHeld ?_ ?_
                  rotate_left
                  · rintro w' ⟨s0, s1, s2, s3⟩
                    go_simp
                    with_reducible rfl
                  rotate_left
                  · simp only [Act.put, List.setIfInBounds_toArray, List.set_cons_zero, List.set_cons_succ, i64_w, i32_w]
                    rfl
                  refine pure_ (i := 7) (N := some 48) (v := ?_) (a' := ?_) #[true, true, true, true, true, true, true, true, true, false] rfl rfl (any_of HT_.out (by kernel_rfl)) (fun _ _ _ h => h) (Or.inl ⟨by rfl, ?_⟩) ?_ ?_
                  rotate_left
                  · intro w'
                    go_simp
                    with_reducible rfl
                  rotate_left
                  · simp only [Act.put, List.setIfInBounds_toArray, List.set_cons_zero, List.set_cons_succ, i64_w, i32_w]
                    rfl
                  refine one_ (i := 9) (N := none) #[true, true, true, true, true, true, true, true, true, true] rfl rfl (one_of HT_.out (by kernel_rfl)) (by decide) (fun K hK => ?_)
                  have hs54 : w53.cell? ⟨gb141, 0, none⟩ = some (.bool false) := (blk_cell BK141.out 0).trans rfl
                  have hfs54 := blk_frozen BK141.out 0
                  have hns54_0 := NB140_141.out
                  have hms54_0 := NB141_140.out
                  have hs55 : w53.cell? ⟨gb141, 1, none⟩ = some (.bool false) := (blk_cell BK141.out 1).trans rfl
                  have hfs55 := blk_frozen BK141.out 1
                  have hns55_0 := NB140_141.out
                  have hms55_0 := NB141_140.out
                  have hs56 : w53.cell? ⟨gb141, 2, none⟩ = some (.bool false) := (blk_cell BK141.out 2).trans rfl
                  have hfs56 := blk_frozen BK141.out 2
                  have hns56_0 := NB140_141.out
                  have hms56_0 := NB141_140.out
                  have hs57 : w53.cell? ⟨gb141, 3, none⟩ = some (.bool false) := (blk_cell BK141.out 3).trans rfl
                  have hfs57 := blk_frozen BK141.out 3
                  have hns57_0 := NB140_141.out
                  have hms57_0 := NB141_140.out
                  refine skip_ (w1 := ?_) (by rfl) rfl ?_ ?_
                  rotate_left
                  · go_simp
                    rfl
                  refine hK.out _ _ ⟨((cell_far (p := ⟨gb141, _, none⟩) NB140_141.out _).trans (((cell_far (p := ⟨gb141, _, none⟩) NB140_141.out _).trans (((cell_far (p := ⟨gb141, _, none⟩) NB140_141.out _).trans (((cell_far (p := ⟨gb141, _, none⟩) NB140_141.out _).trans (hHeld.1)))))))), ((cell_far (p := ⟨gb141, _, none⟩) NB140_141.out _).trans (((cell_far (p := ⟨gb141, _, none⟩) NB140_141.out _).trans (((cell_far (p := ⟨gb141, _, none⟩) NB140_141.out _).trans (((cell_far (p := ⟨gb141, _, none⟩) NB140_141.out _).trans (hHeld.2.1)))))))), ((cell_far (p := ⟨gb141, _, none⟩) NB140_141.out _).trans (((cell_far (p := ⟨gb141, _, none⟩) NB140_141.out _).trans (((cell_far (p := ⟨gb141, _, none⟩) NB140_141.out _).trans (((cell_far (p := ⟨gb141, _, none⟩) NB140_141.out _).trans (hHeld.2.2.1)))))))), ((cell_far (p := ⟨gb141, _, none⟩) NB140_141.out _).trans (((cell_far (p := ⟨gb141, _, none⟩) NB140_141.out _).trans (((cell_far (p := ⟨gb141, _, none⟩) NB140_141.out _).trans (((cell_far (p := ⟨gb141, _, none⟩) NB140_141.out _).trans (hHeld.2.2.2))))))))⟩ (fun hHeld => ?_)
                  clear hK K
                  refine done_ (done_of HT_.out (by kernel_rfl)) ?_
                  try go_wp2
                  refine bodyPost_ret (results_tc rfl _ _ gb141 23 #[.bool (((a0 + x6_13) % 256) == 0), .bool false, .bool false, .bool a1_3] (0, 0) _ rfl (by (with_reducible repeat (first | refine blk_drewN ?_ _ | refine blk_drew ?_ | refine blk_alloc ?_ _)); refine blk_put (cs := #[.bool (((a0 + x6_13) % 256) == 0), .bool false, .bool false, .bool false]) ?_ 3 _ rfl; (with_reducible repeat (first | refine blk_drewN ?_ _ | refine blk_drew ?_ | refine blk_alloc ?_ _)); refine blk_put (cs := #[.bool (((a0 + x6_13) % 256) == 0), .bool false, .bool false, .bool false]) ?_ 2 _ rfl; (with_reducible repeat (first | refine blk_drewN ?_ _ | refine blk_drew ?_ | refine blk_alloc ?_ _)); refine blk_put (cs := #[.bool (((a0 + x6_13) % 256) == 0), .bool false, .bool false, .bool false]) ?_ 1 _ rfl; (with_reducible repeat (first | refine blk_drewN ?_ _ | refine blk_drew ?_ | refine blk_alloc ?_ _)); refine blk_put (cs := #[.bool false, .bool false, .bool false, .bool false]) ?_ 0 _ rfl; (with_reducible repeat (first | refine blk_drewN ?_ _ | refine blk_drew ?_ | refine blk_alloc ?_ _)); exact BK141.out) Try.underlying23 rfl (by kernel_rfl)) rfl ?_
                  exact ⟨by first | rfl | (simp [errW_none, errW_some] <;> rfl) | (simp [*, errW_none, errW_some] <;> rfl), by repeat (first | (with_reducible first | exact HB.out | apply below_alloc | apply pw_below_drewN | apply below_drew1 | refine below_set ?_ GE140.out | refine below_set ?_ GE141.out) | exact HB.out)⟩

end Go.Proofs.Ytdfpaebbejdjlaa.G
