/- Written by a program of this session, after the kit's print: Go functions as Lean functions, each with the proof that the Go text comes to it. -/
import Derived.Test.YtjfpbdecklkldaaG0
import Derived.Test.YtjfpbdecklkldaaG9
import Derived.Test.YtjfpbdecklkldaaG11
namespace Go.Proofs.Ytjfpbdecklkldaa.G
open Go.RowKit Go.Proofs.YtjfpbdecklkldaaW.PrintWords Go.Proofs.YtjfpbdecklkldaaW.PrintLast Go.Proofs.YtjfpbdecklkldaaW.PrintMore
attribute [local go_sem] max2_int min2_int max_two min_two max_three min_three max_four min_four   -- for this text's walks alone
set_option linter.unusedVariables false
set_option linter.unusedSimpArgs false

/-! ### whirligigref11_Step: function 14 -/
def whirligigref11_Step.j0 : Nat → Bool → Bool → Int → Int → Int → Int → Int → Option (Int × Int × Int × Int × Int × Bool)
  | 0, _, _, _, _, _, _, _ => none
  | k + 1, x4, x5, x160000, x160001, x160002, x160003, x160004 => if x4 = true then ((whirligigref11_Hot.f k (IntKind.u16.wrap (Int.tmod (wrap64 ((wrap64 (x160000)) + 4)) 65536)) x160001 x160002 x160003 x160004).bind fun t162 => (if t162 = true then (some (IntKind.u16.wrap (Int.tmod (wrap64 ((wrap64 (x160000)) + 4)) 65536), x160001, x160002, x160003, x160004, x5)) else ((whirligigref11_count.f (IntKind.u16.wrap (Int.tmod (wrap64 ((wrap64 (x160000)) + 4)) 65536)) x160001 x160002 x160003 x160004).bind fun bt163 => (some (bt163.1, bt163.2.1, bt163.2.2.1, bt163.2.2.2.1, bt163.2.2.2.2, x5))))) else (some (IntKind.u16.wrap (Int.tmod (wrap64 ((wrap64 (x160000)) + 4)) 65536), x160001, x160002, x160003, x160004, x5))
def whirligigref11_Step.f (k : Nat) (a0_0 : Int) (a0_1 : Int) (a0_2 : Int) (a0_3 : Int) (a0_4 : Int) : Option (Int × Int × Int × Int × Int × Bool) := (whirligigref11_Hot.f k a0_0 a0_1 a0_2 a0_3 a0_4).bind fun t161 => (if a0_4 = 1 then (whirligigref11_Step.j0 k t161 true a0_0 a0_2 a0_2 a0_3 2) else (whirligigref11_Step.j0 k t161 false a0_0 a0_1 a0_2 a0_3 0))
theorem whirligigref11_Step.mono_l : ∀ k, (∀ y0 y1 y2 y3 y4 y5 y6, LeO (whirligigref11_Step.j0 k y0 y1 y2 y3 y4 y5 y6) (whirligigref11_Step.j0 (k + 1) y0 y1 y2 y3 y4 y5 y6))
  | 0 => fun _ _ _ _ _ _ _ r h => by simp [whirligigref11_Step.j0] at h
  | k + 1 => by
    have ih0 := whirligigref11_Step.mono_l k
    · intro y0 y1 y2 y3 y4 y5 y6
      unfold whirligigref11_Step.j0
      repeat' first
      | (with_reducible exact ih0 _ _ _ _ _ _ _)
      | (with_reducible exact whirligigref11_Hot.mono _ _ _ _ _ _)
      | (with_reducible exact LeO.refl _)
      | (with_reducible exact LeO.none _)
      | (with_reducible refine LeO.ite ?_ ?_)
      | (with_reducible refine LeO.bind ?_ (fun _ => ?_))
      | exact ih0 _ _ _ _ _ _ _
      | exact whirligigref11_Hot.mono _ _ _ _ _ _
      | exact LeO.none _
      | refine LeO.ite ?_ ?_
      | refine LeO.bind ?_ (fun _ => ?_)
theorem whirligigref11_Step.mono : ∀ a0 a1 a2 a3 a4 k, LeO (whirligigref11_Step.f k a0 a1 a2 a3 a4) (whirligigref11_Step.f (k + 1) a0 a1 a2 a3 a4) := by
  intro a0 a1 a2 a3 a4 k
  have ih0 := whirligigref11_Step.mono_l k
  unfold whirligigref11_Step.f
  repeat' first
      | (with_reducible exact ih0 _ _ _ _ _ _ _)
      | (with_reducible exact whirligigref11_Hot.mono _ _ _ _ _ _)
      | (with_reducible exact LeO.refl _)
      | (with_reducible exact LeO.none _)
      | (with_reducible refine LeO.ite ?_ ?_)
      | (with_reducible refine LeO.bind ?_ (fun _ => ?_))
      | exact ih0 _ _ _ _ _ _ _
      | exact whirligigref11_Hot.mono _ _ _ _ _ _
      | exact LeO.none _
      | refine LeO.ite ?_ ?_
      | refine LeO.bind ?_ (fun _ => ?_)
set_option maxHeartbeats 8000000 in
set_option maxRecDepth 100000 in
theorem whirligigref11_Step.calls (k : Nat) (a0_0 : Int) (a0_1 : Int) (a0_2 : Int) (a0_3 : Int) (a0_4 : Int) (r1 : Int) (r2 : Int) (r3 : Int) (r4 : Int) (r5 : Int) (r6 : Bool) (w : World) (h : whirligigref11_Step.f k a0_0 a0_1 a0_2 a0_3 a0_4 = some (r1, r2, r3, r4, r5, r6)) :
    Calls Try.prog 14 #[.agg #[.int .u16 a0_0, .int .u8 a0_1, .int .u8 a0_2, .int .u8 a0_3, .int .u8 a0_4]] w fun e w' => e = .returned (.tuple #[.agg #[.int .u16 r1, .int .u8 r2, .int .u8 r3, .int .u8 r4, .int .u8 r5], .bool r6]) ∧ Below w.heap.size w w' := by
  have hu24 := Try.underlying24
  have HB := Aside0.mk (Below.refl w.heap.size w)
  have H : ((whirligigref11_Hot.f k a0_0 a0_1 a0_2 a0_3 a0_4).bind fun t161 => (if a0_4 = 1 then (whirligigref11_Step.j0 k t161 true a0_0 a0_2 a0_2 a0_3 2) else (whirligigref11_Step.j0 k t161 false a0_0 a0_1 a0_2 a0_3 0))) = some (r1, r2, r3, r4, r5, r6) := h
  clear h
  replace H := Option.bind_eq_some_iff.mp H
  obtain ⟨t161, A20, H⟩ := H
  replace H : (if a0_4 = 1 then (whirligigref11_Step.j0 k t161 true a0_0 a0_2 a0_2 a0_3 2) else (whirligigref11_Step.j0 k t161 false a0_0 a0_1 a0_2 a0_3 0)) = some (r1, r2, r3, r4, r5, r6) := H
  have A2 := Aside0.mk A20
  clear A20
  have HC3 := Aside0.mk H
  clear H
  go_enter Try.func14, Try.ntmps14
  go_upto_if 10 with (first | ((with_reducible refine gate_dst (N := 1) rfl ?_); refine box_event ?hg (N := 1) ?hd (cs := #[.int .u16 a0_0, .int .u8 a0_1, .int .u8 a0_2, .int .u8 a0_3, .int .u8 a0_4]) (t := 24) ?hr ?_; (case hd => rfl); (case hg => rfl); (case hr => first | (go_simp; done) | (go_simp; rfl)); intro gb159 hg w4 hbox hb; have n0_ := Aside0.mk (below_step (by repeat (first | (with_reducible first | exact HB.out | apply below_alloc | apply pw_below_drewN | apply below_drew1) | exact HB.out)) hb); have n1_ := Aside0.mk (hbox); have n2_ := Aside0.mk ((by rw [hg]; exact (below_size (by repeat (first | (with_reducible first | exact HB.out | apply below_alloc | apply pw_below_drewN | apply below_drew1) | exact HB.out))) : w.heap.size ≤ gb159)); have n3_ := Aside0.mk ((by rw [hg]; exact (below_size (by repeat (first | (with_reducible first | exact HB.out | apply below_alloc | apply pw_below_drewN | apply below_drew1) | exact HB.out))) : w.heap.size ≤ gb159)); clear HB; have HB := n0_; have BK159 := n1_; have GW159 := n2_; have GE159 := n3_; clear n0_ n1_ n2_ n3_; clear hb hbox hg) | ((with_reducible refine gate_dst (N := 2) rfl ?_); refine box_event ?hg (N := 2) ?hd (cs := #[.int .u16 0, .int .u8 0, .int .u8 0, .int .u8 0, .int .u8 0]) (t := 24) ?hr ?_; (case hd => rfl); (case hg => rfl); (case hr => first | (go_simp; done) | (go_simp; rfl)); intro gb160 hg w5 hbox hb; have n0_ := Aside0.mk (blk_below (g := gb159) (o := .cells #[.int .u16 a0_0, .int .u8 a0_1, .int .u8 a0_2, .int .u8 a0_3, .int .u8 a0_4] 24 (0, 0)) (by (with_reducible repeat (first | refine blk_drewN ?_ _ | refine blk_drew ?_ | refine blk_alloc ?_ _)); exact BK159.out) hb); have n1_ := Aside0.mk (below_step (by repeat (first | (with_reducible first | exact HB.out | apply below_alloc | apply pw_below_drewN | apply below_drew1 | refine below_set ?_ GE159.out) | exact HB.out)) hb); have n2_ := Aside0.mk (hbox); have n3_ := Aside0.mk ((by rw [hg]; exact (below_size (by repeat (first | (with_reducible first | exact HB.out | apply below_alloc | apply pw_below_drewN | apply below_drew1 | refine below_set ?_ GE159.out) | exact HB.out))) : w.heap.size ≤ gb160)); have n4_ := Aside0.mk ((by rw [hg]; exact (below_size (by repeat (first | (with_reducible first | exact HB.out | apply below_alloc | apply pw_below_drewN | apply below_drew1 | refine below_set ?_ GE159.out) | exact HB.out))) : w.heap.size ≤ gb160)); have n5_ := Aside0.mk ((by rw [hg]; exact Nat.ne_of_lt (blk_lt (g := gb159) (o := .cells #[.int .u16 a0_0, .int .u8 a0_1, .int .u8 a0_2, .int .u8 a0_3, .int .u8 a0_4] 24 (0, 0)) (by (with_reducible repeat (first | refine blk_drewN ?_ _ | refine blk_drew ?_ | refine blk_alloc ?_ _)); exact BK159.out)) : gb159 ≠ gb160)); have n6_ := Aside0.mk ((by rw [hg]; exact Nat.ne_of_gt (blk_lt (g := gb159) (o := .cells #[.int .u16 a0_0, .int .u8 a0_1, .int .u8 a0_2, .int .u8 a0_3, .int .u8 a0_4] 24 (0, 0)) (by (with_reducible repeat (first | refine blk_drewN ?_ _ | refine blk_drew ?_ | refine blk_alloc ?_ _)); exact BK159.out)) : gb160 ≠ gb159)); clear BK159; clear HB; have BK159 := n0_; have HB := n1_; have BK160 := n2_; have GW160 := n3_; have GE160 := n4_; have NB159_160 := n5_; have NB160_159 := n6_; clear n0_ n1_ n2_ n3_ n4_ n5_ n6_; clear hb hbox hg; have hnb6 := NB159_160.out; have hnc6 := NB160_159.out; have hcz7_0 : w5.cell? ⟨gb159, 0, none⟩ = some (.int .u16 a0_0) := (blk_cell BK159.out 0).trans rfl; have hcz7_1 : w5.cell? ⟨gb159, 1, none⟩ = some (.int .u8 a0_1) := (blk_cell BK159.out 1).trans rfl; have hcz7_2 : w5.cell? ⟨gb159, 2, none⟩ = some (.int .u8 a0_2) := (blk_cell BK159.out 2).trans rfl; have hcz7_3 : w5.cell? ⟨gb159, 3, none⟩ = some (.int .u8 a0_3) := (blk_cell BK159.out 3).trans rfl; have hcz7_4 : w5.cell? ⟨gb159, 4, none⟩ = some (.int .u8 a0_4) := (blk_cell BK159.out 4).trans rfl; have hfz7_0 := blk_frozen BK159.out 0; have hfz7_1 := blk_frozen BK159.out 1; have hfz7_2 := blk_frozen BK159.out 2; have hfz7_3 := blk_frozen BK159.out 3; have hfz7_4 := blk_frozen BK159.out 4) | ((with_reducible refine gate_callee (f := 12) rfl ?_); refine goesL_ (some 7) rfl rfl Try.func12 (by kernel_rfl) rfl #[.agg #[.int .u16 a0_0, .int .u8 a0_1, .int .u8 a0_2, .int .u8 a0_3, .int .u8 a0_4]] rfl (by (try simp only [List.map_toArray, List.map_cons, List.map_nil]); first | done | rfl | (simp only [List.length_drop, List.length_take]; rfl)) ?_; (with_reducible refine (whirligigref11_Hot.calls k a0_0 a0_1 a0_2 a0_3 a0_4 t161 _ A2.out).mono ?_); rintro e w8 ⟨rfl, hb⟩; refine ⟨_, rfl, ?_⟩; have n0_ := Aside0.mk (blk_below (g := gb159) (o := .cells #[.int .u16 a0_0, .int .u8 a0_1, .int .u8 a0_2, .int .u8 a0_3, .int .u8 a0_4] 24 (0, 0)) (by (with_reducible repeat (first | refine blk_drewN ?_ _ | refine blk_drew ?_ | refine blk_alloc ?_ _)); exact BK159.out) hb); have n1_ := Aside0.mk (blk_below (g := gb160) (o := .cells #[.int .u16 0, .int .u8 0, .int .u8 0, .int .u8 0, .int .u8 0] 24 (0, 0)) (by (with_reducible repeat (first | refine blk_drewN ?_ _ | refine blk_drew ?_ | refine blk_alloc ?_ _)); exact BK160.out) hb); have n2_ := Aside0.mk (below_step (by repeat (first | (with_reducible first | exact HB.out | apply below_alloc | apply pw_below_drewN | apply below_drew1 | refine below_set ?_ GE159.out | refine below_set ?_ GE160.out) | exact HB.out)) hb); clear BK159; clear BK160; clear HB; have BK159 := n0_; have BK160 := n1_; have HB := n2_; clear n0_ n1_ n2_; (try clear hb); (try clear hb2); (try clear hk); (try clear hi); have hcz9_0 : w8.cell? ⟨gb159, 0, none⟩ = some (.int .u16 a0_0) := (blk_cell BK159.out 0).trans rfl; have hcz9_1 : w8.cell? ⟨gb159, 1, none⟩ = some (.int .u8 a0_1) := (blk_cell BK159.out 1).trans rfl; have hcz9_2 : w8.cell? ⟨gb159, 2, none⟩ = some (.int .u8 a0_2) := (blk_cell BK159.out 2).trans rfl; have hcz9_3 : w8.cell? ⟨gb159, 3, none⟩ = some (.int .u8 a0_3) := (blk_cell BK159.out 3).trans rfl; have hcz9_4 : w8.cell? ⟨gb159, 4, none⟩ = some (.int .u8 a0_4) := (blk_cell BK159.out 4).trans rfl; have hfz9_0 := blk_frozen BK159.out 0; have hfz9_1 := blk_frozen BK159.out 1; have hfz9_2 := blk_frozen BK159.out 2; have hfz9_3 := blk_frozen BK159.out 3; have hfz9_4 := blk_frozen BK159.out 4))
  (try simp only [Act.put, List.setIfInBounds_toArray, List.set_cons_zero, List.set_cons_succ])
  go_cut [5] (fun v5 wc => ∃ (kq : Nat) (x5_2 : Bool) (x160001_2 : Int) (x160004_2 : Int), v5 = .bool x5_2 ∧ Aside0 (whirligigref11_Step.j0 kq t161 x5_2 a0_0 x160001_2 a0_2 a0_3 x160004_2 = some (r1, r2, r3, r4, r5, r6)) ∧ Aside0 (kq ≤ k) ∧ Aside0 (wc.heap[gb159]? = some (.cells #[.int .u16 a0_0, .int .u8 x160001_2, .int .u8 a0_2, .int .u8 a0_3, .int .u8 x160004_2] 24 (0, 0))) ∧ Aside0 (wc.heap[gb160]? = some (.cells #[.int .u16 0, .int .u8 0, .int .u8 0, .int .u8 0, .int .u8 0] 24 (0, 0))) ∧ Aside0 (Below w.heap.size w wc))
  case first =>
    have H := HC3.out
    clear HC3
    by_cases c10 : a0_4 = 1
    · rw [if_pos c10] at H
      have c10b0 : (a0_4 == 1) = true := beq_iff_eq.mpr c10
      have c10b1 : (a0_4 != 1) = false := bne_eq_false_iff_eq.mpr c10
      clear c10
      (first | rw [c10b0] | (simp only [i64_w, i32_w]; rw [c10b0]) | skip)
      have H' := Aside0.mk H
      clear H
      have hnb11 := NB159_160.out
      have hnc11 := NB160_159.out
      have hcz12_0 : w8.cell? ⟨gb159, 0, none⟩ = some (.int .u16 a0_0) := (blk_cell BK159.out 0).trans rfl
      have hcz12_1 : w8.cell? ⟨gb159, 1, none⟩ = some (.int .u8 a0_1) := (blk_cell BK159.out 1).trans rfl
      have hcz12_2 : w8.cell? ⟨gb159, 2, none⟩ = some (.int .u8 a0_2) := (blk_cell BK159.out 2).trans rfl
      have hcz12_3 : w8.cell? ⟨gb159, 3, none⟩ = some (.int .u8 a0_3) := (blk_cell BK159.out 3).trans rfl
      have hcz12_4 : w8.cell? ⟨gb159, 4, none⟩ = some (.int .u8 a0_4) := (blk_cell BK159.out 4).trans rfl
      have hfz12_0 := blk_frozen BK159.out 0
      have hfz12_1 := blk_frozen BK159.out 1
      have hfz12_2 := blk_frozen BK159.out 2
      have hfz12_3 := blk_frozen BK159.out 3
      have hfz12_4 := blk_frozen BK159.out 4
      go_wp2
      go_meet
      case rel => exact ⟨_, (true), (a0_2), (2), (by first | rfl | (simp; done) | (simp [*]; done)), H', ⟨by first | omega | exact Nat.le_refl _⟩, ⟨by (with_reducible repeat (first | refine blk_drewN ?_ _ | refine blk_drew ?_ | refine blk_alloc ?_ _)); refine blk_put (cs := #[.int .u16 a0_0, .int .u8 a0_2, .int .u8 a0_2, .int .u8 a0_3, .int .u8 a0_4]) ?_ 4 _ rfl; (with_reducible repeat (first | refine blk_drewN ?_ _ | refine blk_drew ?_ | refine blk_alloc ?_ _)); refine blk_put (cs := #[.int .u16 a0_0, .int .u8 a0_1, .int .u8 a0_2, .int .u8 a0_3, .int .u8 a0_4]) ?_ 1 _ rfl; (with_reducible repeat (first | refine blk_drewN ?_ _ | refine blk_drew ?_ | refine blk_alloc ?_ _)); exact BK159.out⟩, ⟨by (with_reducible repeat (first | refine blk_drewN ?_ _ | refine blk_drew ?_ | refine blk_alloc ?_ _)); refine blk_far ?_ NB160_159.out _; (with_reducible repeat (first | refine blk_drewN ?_ _ | refine blk_drew ?_ | refine blk_alloc ?_ _)); refine blk_far ?_ NB160_159.out _; (with_reducible repeat (first | refine blk_drewN ?_ _ | refine blk_drew ?_ | refine blk_alloc ?_ _)); exact BK160.out⟩, ⟨by repeat (first | (with_reducible first | exact HB.out | apply below_alloc | apply pw_below_drewN | apply below_drew1 | refine below_set ?_ GE159.out | refine below_set ?_ GE160.out) | exact HB.out)⟩⟩
    · rw [if_neg c10] at H
      have c10b0 : (a0_4 == 1) = false := beq_eq_false_iff_ne.mpr c10
      have c10b1 : (a0_4 != 1) = true := bne_iff_ne.mpr c10
      (first | rw [c10b0] | (simp only [i64_w, i32_w]; rw [c10b0]) | skip)
      have H' := Aside0.mk H
      clear H
      have hnb13 := NB159_160.out
      have hnc13 := NB160_159.out
      have hcz14_0 : w8.cell? ⟨gb159, 0, none⟩ = some (.int .u16 a0_0) := (blk_cell BK159.out 0).trans rfl
      have hcz14_1 : w8.cell? ⟨gb159, 1, none⟩ = some (.int .u8 a0_1) := (blk_cell BK159.out 1).trans rfl
      have hcz14_2 : w8.cell? ⟨gb159, 2, none⟩ = some (.int .u8 a0_2) := (blk_cell BK159.out 2).trans rfl
      have hcz14_3 : w8.cell? ⟨gb159, 3, none⟩ = some (.int .u8 a0_3) := (blk_cell BK159.out 3).trans rfl
      have hcz14_4 : w8.cell? ⟨gb159, 4, none⟩ = some (.int .u8 a0_4) := (blk_cell BK159.out 4).trans rfl
      have hfz14_0 := blk_frozen BK159.out 0
      have hfz14_1 := blk_frozen BK159.out 1
      have hfz14_2 := blk_frozen BK159.out 2
      have hfz14_3 := blk_frozen BK159.out 3
      have hfz14_4 := blk_frozen BK159.out 4
      go_wp2
      go_meet
      case rel => exact ⟨_, (false), (a0_1), (0), (by first | rfl | (simp; done) | (simp [*]; done)), H', ⟨by first | omega | exact Nat.le_refl _⟩, ⟨by (with_reducible repeat (first | refine blk_drewN ?_ _ | refine blk_drew ?_ | refine blk_alloc ?_ _)); refine blk_put (cs := #[.int .u16 a0_0, .int .u8 a0_1, .int .u8 a0_2, .int .u8 a0_3, .int .u8 a0_4]) ?_ 4 _ rfl; (with_reducible repeat (first | refine blk_drewN ?_ _ | refine blk_drew ?_ | refine blk_alloc ?_ _)); exact BK159.out⟩, ⟨by (with_reducible repeat (first | refine blk_drewN ?_ _ | refine blk_drew ?_ | refine blk_alloc ?_ _)); refine blk_far ?_ NB160_159.out _; (with_reducible repeat (first | refine blk_drewN ?_ _ | refine blk_drew ?_ | refine blk_alloc ?_ _)); exact BK160.out⟩, ⟨by repeat (first | (with_reducible first | exact HB.out | apply below_alloc | apply pw_below_drewN | apply below_drew1 | refine below_set ?_ GE159.out | refine below_set ?_ GE160.out) | exact HB.out)⟩⟩
  case rest =>
    clear HC3
    try clear c1
    try clear p2
    try clear c6
    try clear c10
    try clear c10b0
    try clear c10b1
    try clear c11
    try clear c12
    try clear c13
    try clear c14
    try clear hcz12_0
    try clear hcz12_1
    try clear hcz12_2
    try clear hcz12_3
    try clear hcz12_4
    try clear hcz14_0
    try clear hcz14_1
    try clear hcz14_2
    try clear hcz14_3
    try clear hcz14_4
    try clear hcz7_0
    try clear hcz7_1
    try clear hcz7_2
    try clear hcz7_3
    try clear hcz7_4
    try clear hcz9_0
    try clear hcz9_1
    try clear hcz9_2
    try clear hcz9_3
    try clear hcz9_4
    try clear hfz12_0
    try clear hfz12_1
    try clear hfz12_2
    try clear hfz12_3
    try clear hfz12_4
    try clear hfz14_0
    try clear hfz14_1
    try clear hfz14_2
    try clear hfz14_3
    try clear hfz14_4
    try clear hfz7_0
    try clear hfz7_1
    try clear hfz7_2
    try clear hfz7_3
    try clear hfz7_4
    try clear hfz9_0
    try clear hfz9_1
    try clear hfz9_2
    try clear hfz9_3
    try clear hfz9_4
    obtain ⟨kq, x5_2, x160001_2, x160004_2, rfl, HA, HJ2, BK159, BK160, HB⟩ := hcut
    cases kq with
    | zero => exact absurd HA.out (by simp [whirligigref11_Step.j0])
    | succ kj2 =>
      have H := HA.out
      clear HA
      simp only [whirligigref11_Step.j0] at H
      by_cases c15 : t161 = true
      · subst c15
        have H1 : ((whirligigref11_Hot.f kj2 (IntKind.u16.wrap (Int.tmod (wrap64 ((wrap64 (a0_0)) + 4)) 65536)) x160001_2 a0_2 a0_3 x160004_2).bind fun t162 => (if t162 = true then (some (IntKind.u16.wrap (Int.tmod (wrap64 ((wrap64 (a0_0)) + 4)) 65536), x160001_2, a0_2, a0_3, x160004_2, x5_2)) else ((whirligigref11_count.f (IntKind.u16.wrap (Int.tmod (wrap64 ((wrap64 (a0_0)) + 4)) 65536)) x160001_2 a0_2 a0_3 x160004_2).bind fun bt163 => (some (bt163.1, bt163.2.1, bt163.2.2.1, bt163.2.2.2.1, bt163.2.2.2.2, x5_2))))) = some (r1, r2, r3, r4, r5, r6) := by rw [if_pos rfl] at H; exact H
        clear H
        have H := H1
        clear H1
        replace H := Option.bind_eq_some_iff.mp H
        obtain ⟨t162, A160, H⟩ := H
        replace H : (if t162 = true then (some (IntKind.u16.wrap (Int.tmod (wrap64 ((wrap64 (a0_0)) + 4)) 65536), x160001_2, a0_2, a0_3, x160004_2, x5_2)) else ((whirligigref11_count.f (IntKind.u16.wrap (Int.tmod (wrap64 ((wrap64 (a0_0)) + 4)) 65536)) x160001_2 a0_2 a0_3 x160004_2).bind fun bt163 => (some (bt163.1, bt163.2.1, bt163.2.2.1, bt163.2.2.2.1, bt163.2.2.2.2, x5_2)))) = some (r1, r2, r3, r4, r5, r6) := H
        have A16 := Aside0.mk A160
        clear A160
        by_cases c17 : t162 = true
        · subst c17
          have H1 : (some (IntKind.u16.wrap (Int.tmod (wrap64 ((wrap64 (a0_0)) + 4)) 65536), x160001_2, a0_2, a0_3, x160004_2, x5_2)) = some (r1, r2, r3, r4, r5, r6) := by rw [if_pos rfl] at H; exact H
          clear H
          have H := H1
          clear H1
          simp only [Option.some.injEq, Prod.mk.injEq] at H
          obtain ⟨rfl, rfl, rfl, rfl, rfl, rfl⟩ := H
          have hnb18 := NB159_160.out
          have hnc18 := NB160_159.out
          have hcz19_0 : wc.cell? ⟨gb159, 0, none⟩ = some (.int .u16 a0_0) := (blk_cell BK159.out 0).trans rfl
          have hcz19_1 : wc.cell? ⟨gb159, 1, none⟩ = some (.int .u8 x160001_2) := (blk_cell BK159.out 1).trans rfl
          have hcz19_2 : wc.cell? ⟨gb159, 2, none⟩ = some (.int .u8 a0_2) := (blk_cell BK159.out 2).trans rfl
          have hcz19_3 : wc.cell? ⟨gb159, 3, none⟩ = some (.int .u8 a0_3) := (blk_cell BK159.out 3).trans rfl
          have hcz19_4 : wc.cell? ⟨gb159, 4, none⟩ = some (.int .u8 x160004_2) := (blk_cell BK159.out 4).trans rfl
          have hfz19_0 := blk_frozen BK159.out 0
          have hfz19_1 := blk_frozen BK159.out 1
          have hfz19_2 := blk_frozen BK159.out 2
          have hfz19_3 := blk_frozen BK159.out 3
          have hfz19_4 := blk_frozen BK159.out 4
          go_wp2_with (first | (go_at_call 12; (with_reducible refine (whirligigref11_Hot.calls kj2 (IntKind.u16.wrap (Int.tmod (wrap64 ((wrap64 (a0_0)) + 4)) 65536)) x160001_2 a0_2 a0_3 x160004_2 true _ A16.out).mono ?_); rintro e w20 ⟨rfl, hb⟩; have n0_ := Aside0.mk (blk_below (g := gb159) (o := .cells #[.int .u16 (IntKind.u16.wrap (Int.tmod (wrap64 ((wrap64 (a0_0)) + 4)) 65536)), .int .u8 x160001_2, .int .u8 a0_2, .int .u8 a0_3, .int .u8 x160004_2] 24 (0, 0)) (by (with_reducible repeat (first | refine blk_drewN ?_ _ | refine blk_drew ?_ | refine blk_alloc ?_ _)); refine blk_put (cs := #[.int .u16 a0_0, .int .u8 x160001_2, .int .u8 a0_2, .int .u8 a0_3, .int .u8 x160004_2]) ?_ 0 _ rfl; (with_reducible repeat (first | refine blk_drewN ?_ _ | refine blk_drew ?_ | refine blk_alloc ?_ _)); exact BK159.out) hb); have n1_ := Aside0.mk (blk_below (g := gb160) (o := .cells #[.int .u16 0, .int .u8 0, .int .u8 0, .int .u8 0, .int .u8 0] 24 (0, 0)) (by (with_reducible repeat (first | refine blk_drewN ?_ _ | refine blk_drew ?_ | refine blk_alloc ?_ _)); refine blk_far ?_ NB160_159.out _; (with_reducible repeat (first | refine blk_drewN ?_ _ | refine blk_drew ?_ | refine blk_alloc ?_ _)); exact BK160.out) hb); have n2_ := Aside0.mk (below_step (by repeat (first | (with_reducible first | exact HB.out | apply below_alloc | apply pw_below_drewN | apply below_drew1 | refine below_set ?_ GE159.out | refine below_set ?_ GE160.out) | exact HB.out)) hb); clear BK159; clear BK160; clear HB; have BK159 := n0_; have BK160 := n1_; have HB := n2_; clear n0_ n1_ n2_; (try clear hb); (try clear hb2); (try clear hk); (try clear hi); have hcz21_0 : w20.cell? ⟨gb159, 0, none⟩ = some (.int .u16 (IntKind.u16.wrap (Int.tmod (wrap64 ((wrap64 (a0_0)) + 4)) 65536))) := (blk_cell BK159.out 0).trans rfl; have hcz21_1 : w20.cell? ⟨gb159, 1, none⟩ = some (.int .u8 x160001_2) := (blk_cell BK159.out 1).trans rfl; have hcz21_2 : w20.cell? ⟨gb159, 2, none⟩ = some (.int .u8 a0_2) := (blk_cell BK159.out 2).trans rfl; have hcz21_3 : w20.cell? ⟨gb159, 3, none⟩ = some (.int .u8 a0_3) := (blk_cell BK159.out 3).trans rfl; have hcz21_4 : w20.cell? ⟨gb159, 4, none⟩ = some (.int .u8 x160004_2) := (blk_cell BK159.out 4).trans rfl; have hfz21_0 := blk_frozen BK159.out 0; have hfz21_1 := blk_frozen BK159.out 1; have hfz21_2 := blk_frozen BK159.out 2; have hfz21_3 := blk_frozen BK159.out 3; have hfz21_4 := blk_frozen BK159.out 4; have hcz22_0 : w20.cell? ⟨gb160, 0, none⟩ = some (.int .u16 0) := (blk_cell BK160.out 0).trans rfl; have hcz22_1 : w20.cell? ⟨gb160, 1, none⟩ = some (.int .u8 0) := (blk_cell BK160.out 1).trans rfl; have hcz22_2 : w20.cell? ⟨gb160, 2, none⟩ = some (.int .u8 0) := (blk_cell BK160.out 2).trans rfl; have hcz22_3 : w20.cell? ⟨gb160, 3, none⟩ = some (.int .u8 0) := (blk_cell BK160.out 3).trans rfl; have hcz22_4 : w20.cell? ⟨gb160, 4, none⟩ = some (.int .u8 0) := (blk_cell BK160.out 4).trans rfl; have hfz22_0 := blk_frozen BK160.out 0; have hfz22_1 := blk_frozen BK160.out 1; have hfz22_2 := blk_frozen BK160.out 2; have hfz22_3 := blk_frozen BK160.out 3; have hfz22_4 := blk_frozen BK160.out 4))
          refine bodyPost_ret (results_ct rfl _ _ gb160 24 #[.int .u16 (IntKind.u16.wrap (Int.tmod (wrap64 ((wrap64 (a0_0)) + 4)) 65536)), .int .u8 x160001_2, .int .u8 a0_2, .int .u8 a0_3, .int .u8 x160004_2] (0, 0) _ rfl (by (with_reducible repeat (first | refine blk_drewN ?_ _ | refine blk_drew ?_ | refine blk_alloc ?_ _)); refine blk_put (cs := #[.int .u16 (IntKind.u16.wrap (Int.tmod (wrap64 ((wrap64 (a0_0)) + 4)) 65536)), .int .u8 x160001_2, .int .u8 a0_2, .int .u8 a0_3, .int .u8 0]) ?_ 4 _ rfl; (with_reducible repeat (first | refine blk_drewN ?_ _ | refine blk_drew ?_ | refine blk_alloc ?_ _)); refine blk_put (cs := #[.int .u16 (IntKind.u16.wrap (Int.tmod (wrap64 ((wrap64 (a0_0)) + 4)) 65536)), .int .u8 x160001_2, .int .u8 a0_2, .int .u8 0, .int .u8 0]) ?_ 3 _ rfl; (with_reducible repeat (first | refine blk_drewN ?_ _ | refine blk_drew ?_ | refine blk_alloc ?_ _)); refine blk_put (cs := #[.int .u16 (IntKind.u16.wrap (Int.tmod (wrap64 ((wrap64 (a0_0)) + 4)) 65536)), .int .u8 x160001_2, .int .u8 0, .int .u8 0, .int .u8 0]) ?_ 2 _ rfl; (with_reducible repeat (first | refine blk_drewN ?_ _ | refine blk_drew ?_ | refine blk_alloc ?_ _)); refine blk_put (cs := #[.int .u16 (IntKind.u16.wrap (Int.tmod (wrap64 ((wrap64 (a0_0)) + 4)) 65536)), .int .u8 0, .int .u8 0, .int .u8 0, .int .u8 0]) ?_ 1 _ rfl; (with_reducible repeat (first | refine blk_drewN ?_ _ | refine blk_drew ?_ | refine blk_alloc ?_ _)); refine blk_put (cs := #[.int .u16 0, .int .u8 0, .int .u8 0, .int .u8 0, .int .u8 0]) ?_ 0 _ rfl; (with_reducible repeat (first | refine blk_drewN ?_ _ | refine blk_drew ?_ | refine blk_alloc ?_ _)); exact BK160.out) Try.underlying24 rfl (by kernel_rfl)) rfl ?_
          exact ⟨by first | rfl | (simp [errW_none, errW_some] <;> rfl) | (simp [*, errW_none, errW_some] <;> rfl), by repeat (first | (with_reducible first | exact HB.out | apply below_alloc | apply pw_below_drewN | apply below_drew1 | refine below_set ?_ GE159.out | refine below_set ?_ GE160.out) | exact HB.out)⟩
        · replace c17 := Bool.eq_false_iff.mpr c17
          subst c17
          have H1 : ((whirligigref11_count.f (IntKind.u16.wrap (Int.tmod (wrap64 ((wrap64 (a0_0)) + 4)) 65536)) x160001_2 a0_2 a0_3 x160004_2).bind fun bt163 => (some (bt163.1, bt163.2.1, bt163.2.2.1, bt163.2.2.2.1, bt163.2.2.2.2, x5_2))) = some (r1, r2, r3, r4, r5, r6) := by rw [if_neg (show ¬ (false = true) by decide)] at H; exact H
          clear H
          have H := H1
          clear H1
          replace H := Option.bind_eq_some_iff.mp H
          obtain ⟨⟨t163, t164, t165, t166, t167⟩, A230, H⟩ := H
          replace H : (some (t163, t164, t165, t166, t167, x5_2)) = some (r1, r2, r3, r4, r5, r6) := H
          have A23 := Aside0.mk A230
          clear A230
          simp only [Option.some.injEq, Prod.mk.injEq] at H
          obtain ⟨rfl, rfl, rfl, rfl, rfl, rfl⟩ := H
          have hnb24 := NB159_160.out
          have hnc24 := NB160_159.out
          have hcz25_0 : wc.cell? ⟨gb159, 0, none⟩ = some (.int .u16 a0_0) := (blk_cell BK159.out 0).trans rfl
          have hcz25_1 : wc.cell? ⟨gb159, 1, none⟩ = some (.int .u8 x160001_2) := (blk_cell BK159.out 1).trans rfl
          have hcz25_2 : wc.cell? ⟨gb159, 2, none⟩ = some (.int .u8 a0_2) := (blk_cell BK159.out 2).trans rfl
          have hcz25_3 : wc.cell? ⟨gb159, 3, none⟩ = some (.int .u8 a0_3) := (blk_cell BK159.out 3).trans rfl
          have hcz25_4 : wc.cell? ⟨gb159, 4, none⟩ = some (.int .u8 x160004_2) := (blk_cell BK159.out 4).trans rfl
          have hfz25_0 := blk_frozen BK159.out 0
          have hfz25_1 := blk_frozen BK159.out 1
          have hfz25_2 := blk_frozen BK159.out 2
          have hfz25_3 := blk_frozen BK159.out 3
          have hfz25_4 := blk_frozen BK159.out 4
          go_wp2_with (first | (go_at_call 12; (with_reducible refine (whirligigref11_Hot.calls kj2 (IntKind.u16.wrap (Int.tmod (wrap64 ((wrap64 (a0_0)) + 4)) 65536)) x160001_2 a0_2 a0_3 x160004_2 false _ A16.out).mono ?_); rintro e w26 ⟨rfl, hb⟩; have n0_ := Aside0.mk (blk_below (g := gb159) (o := .cells #[.int .u16 (IntKind.u16.wrap (Int.tmod (wrap64 ((wrap64 (a0_0)) + 4)) 65536)), .int .u8 x160001_2, .int .u8 a0_2, .int .u8 a0_3, .int .u8 x160004_2] 24 (0, 0)) (by (with_reducible repeat (first | refine blk_drewN ?_ _ | refine blk_drew ?_ | refine blk_alloc ?_ _)); refine blk_put (cs := #[.int .u16 a0_0, .int .u8 x160001_2, .int .u8 a0_2, .int .u8 a0_3, .int .u8 x160004_2]) ?_ 0 _ rfl; (with_reducible repeat (first | refine blk_drewN ?_ _ | refine blk_drew ?_ | refine blk_alloc ?_ _)); exact BK159.out) hb); have n1_ := Aside0.mk (blk_below (g := gb160) (o := .cells #[.int .u16 0, .int .u8 0, .int .u8 0, .int .u8 0, .int .u8 0] 24 (0, 0)) (by (with_reducible repeat (first | refine blk_drewN ?_ _ | refine blk_drew ?_ | refine blk_alloc ?_ _)); refine blk_far ?_ NB160_159.out _; (with_reducible repeat (first | refine blk_drewN ?_ _ | refine blk_drew ?_ | refine blk_alloc ?_ _)); exact BK160.out) hb); have n2_ := Aside0.mk (below_step (by repeat (first | (with_reducible first | exact HB.out | apply below_alloc | apply pw_below_drewN | apply below_drew1 | refine below_set ?_ GE159.out | refine below_set ?_ GE160.out) | exact HB.out)) hb); clear BK159; clear BK160; clear HB; have BK159 := n0_; have BK160 := n1_; have HB := n2_; clear n0_ n1_ n2_; (try clear hb); (try clear hb2); (try clear hk); (try clear hi); have hcz27_0 : w26.cell? ⟨gb159, 0, none⟩ = some (.int .u16 (IntKind.u16.wrap (Int.tmod (wrap64 ((wrap64 (a0_0)) + 4)) 65536))) := (blk_cell BK159.out 0).trans rfl; have hcz27_1 : w26.cell? ⟨gb159, 1, none⟩ = some (.int .u8 x160001_2) := (blk_cell BK159.out 1).trans rfl; have hcz27_2 : w26.cell? ⟨gb159, 2, none⟩ = some (.int .u8 a0_2) := (blk_cell BK159.out 2).trans rfl; have hcz27_3 : w26.cell? ⟨gb159, 3, none⟩ = some (.int .u8 a0_3) := (blk_cell BK159.out 3).trans rfl; have hcz27_4 : w26.cell? ⟨gb159, 4, none⟩ = some (.int .u8 x160004_2) := (blk_cell BK159.out 4).trans rfl; have hfz27_0 := blk_frozen BK159.out 0; have hfz27_1 := blk_frozen BK159.out 1; have hfz27_2 := blk_frozen BK159.out 2; have hfz27_3 := blk_frozen BK159.out 3; have hfz27_4 := blk_frozen BK159.out 4) | ((with_reducible refine gate_callee (f := 24) rfl ?_); refine goesL_ (some 30) rfl rfl Try.func24 (by kernel_rfl) rfl #[.agg #[.int .u16 (IntKind.u16.wrap (Int.tmod (wrap64 ((wrap64 (a0_0)) + 4)) 65536)), .int .u8 x160001_2, .int .u8 a0_2, .int .u8 a0_3, .int .u8 x160004_2]] rfl (by (try simp only [List.map_toArray, List.map_cons, List.map_nil]); first | done | rfl | (simp only [List.length_drop, List.length_take]; rfl)) ?_; (with_reducible refine (whirligigref11_count.calls (IntKind.u16.wrap (Int.tmod (wrap64 ((wrap64 (a0_0)) + 4)) 65536)) x160001_2 a0_2 a0_3 x160004_2 t163 t164 t165 t166 t167 _ A23.out).mono ?_); rintro e w28 ⟨rfl, hb⟩; refine ⟨_, rfl, ?_⟩; have n0_ := Aside0.mk (blk_below (g := gb159) (o := .cells #[.int .u16 (IntKind.u16.wrap (Int.tmod (wrap64 ((wrap64 (a0_0)) + 4)) 65536)), .int .u8 x160001_2, .int .u8 a0_2, .int .u8 a0_3, .int .u8 x160004_2] 24 (0, 0)) (by (with_reducible repeat (first | refine blk_drewN ?_ _ | refine blk_drew ?_ | refine blk_alloc ?_ _)); exact BK159.out) hb); have n1_ := Aside0.mk (blk_below (g := gb160) (o := .cells #[.int .u16 0, .int .u8 0, .int .u8 0, .int .u8 0, .int .u8 0] 24 (0, 0)) (by (with_reducible repeat (first | refine blk_drewN ?_ _ | refine blk_drew ?_ | refine blk_alloc ?_ _)); exact BK160.out) hb); have n2_ := Aside0.mk (below_step (by repeat (first | (with_reducible first | exact HB.out | apply below_alloc | apply pw_below_drewN | apply below_drew1 | refine below_set ?_ GE159.out | refine below_set ?_ GE160.out) | exact HB.out)) hb); clear BK159; clear BK160; clear HB; have BK159 := n0_; have BK160 := n1_; have HB := n2_; clear n0_ n1_ n2_; (try clear hb); (try clear hb2); (try clear hk); (try clear hi); have hcz29_0 : w28.cell? ⟨gb159, 0, none⟩ = some (.int .u16 (IntKind.u16.wrap (Int.tmod (wrap64 ((wrap64 (a0_0)) + 4)) 65536))) := (blk_cell BK159.out 0).trans rfl; have hcz29_1 : w28.cell? ⟨gb159, 1, none⟩ = some (.int .u8 x160001_2) := (blk_cell BK159.out 1).trans rfl; have hcz29_2 : w28.cell? ⟨gb159, 2, none⟩ = some (.int .u8 a0_2) := (blk_cell BK159.out 2).trans rfl; have hcz29_3 : w28.cell? ⟨gb159, 3, none⟩ = some (.int .u8 a0_3) := (blk_cell BK159.out 3).trans rfl; have hcz29_4 : w28.cell? ⟨gb159, 4, none⟩ = some (.int .u8 x160004_2) := (blk_cell BK159.out 4).trans rfl; have hfz29_0 := blk_frozen BK159.out 0; have hfz29_1 := blk_frozen BK159.out 1; have hfz29_2 := blk_frozen BK159.out 2; have hfz29_3 := blk_frozen BK159.out 3; have hfz29_4 := blk_frozen BK159.out 4; have hcz30_0 : w28.cell? ⟨gb160, 0, none⟩ = some (.int .u16 0) := (blk_cell BK160.out 0).trans rfl; have hcz30_1 : w28.cell? ⟨gb160, 1, none⟩ = some (.int .u8 0) := (blk_cell BK160.out 1).trans rfl; have hcz30_2 : w28.cell? ⟨gb160, 2, none⟩ = some (.int .u8 0) := (blk_cell BK160.out 2).trans rfl; have hcz30_3 : w28.cell? ⟨gb160, 3, none⟩ = some (.int .u8 0) := (blk_cell BK160.out 3).trans rfl; have hcz30_4 : w28.cell? ⟨gb160, 4, none⟩ = some (.int .u8 0) := (blk_cell BK160.out 4).trans rfl; have hfz30_0 := blk_frozen BK160.out 0; have hfz30_1 := blk_frozen BK160.out 1; have hfz30_2 := blk_frozen BK160.out 2; have hfz30_3 := blk_frozen BK160.out 3; have hfz30_4 := blk_frozen BK160.out 4))
          refine bodyPost_ret (results_ct rfl _ _ gb160 24 #[.int .u16 t163, .int .u8 t164, .int .u8 t165, .int .u8 t166, .int .u8 t167] (0, 0) _ rfl (by (with_reducible repeat (first | refine blk_drewN ?_ _ | refine blk_drew ?_ | refine blk_alloc ?_ _)); refine blk_put (cs := #[.int .u16 t163, .int .u8 t164, .int .u8 t165, .int .u8 t166, .int .u8 0]) ?_ 4 _ rfl; (with_reducible repeat (first | refine blk_drewN ?_ _ | refine blk_drew ?_ | refine blk_alloc ?_ _)); refine blk_put (cs := #[.int .u16 t163, .int .u8 t164, .int .u8 t165, .int .u8 0, .int .u8 0]) ?_ 3 _ rfl; (with_reducible repeat (first | refine blk_drewN ?_ _ | refine blk_drew ?_ | refine blk_alloc ?_ _)); refine blk_put (cs := #[.int .u16 t163, .int .u8 t164, .int .u8 0, .int .u8 0, .int .u8 0]) ?_ 2 _ rfl; (with_reducible repeat (first | refine blk_drewN ?_ _ | refine blk_drew ?_ | refine blk_alloc ?_ _)); refine blk_put (cs := #[.int .u16 t163, .int .u8 0, .int .u8 0, .int .u8 0, .int .u8 0]) ?_ 1 _ rfl; (with_reducible repeat (first | refine blk_drewN ?_ _ | refine blk_drew ?_ | refine blk_alloc ?_ _)); refine blk_put (cs := #[.int .u16 0, .int .u8 0, .int .u8 0, .int .u8 0, .int .u8 0]) ?_ 0 _ rfl; (with_reducible repeat (first | refine blk_drewN ?_ _ | refine blk_drew ?_ | refine blk_alloc ?_ _)); refine blk_far ?_ NB160_159.out _; (with_reducible repeat (first | refine blk_drewN ?_ _ | refine blk_drew ?_ | refine blk_alloc ?_ _)); refine blk_far ?_ NB160_159.out _; (with_reducible repeat (first | refine blk_drewN ?_ _ | refine blk_drew ?_ | refine blk_alloc ?_ _)); refine blk_far ?_ NB160_159.out _; (with_reducible repeat (first | refine blk_drewN ?_ _ | refine blk_drew ?_ | refine blk_alloc ?_ _)); refine blk_far ?_ NB160_159.out _; (with_reducible repeat (first | refine blk_drewN ?_ _ | refine blk_drew ?_ | refine blk_alloc ?_ _)); refine blk_far ?_ NB160_159.out _; (with_reducible repeat (first | refine blk_drewN ?_ _ | refine blk_drew ?_ | refine blk_alloc ?_ _)); exact BK160.out) Try.underlying24 rfl (by kernel_rfl)) rfl ?_
          exact ⟨by first | rfl | (simp [errW_none, errW_some] <;> rfl) | (simp [*, errW_none, errW_some] <;> rfl), by repeat (first | (with_reducible first | exact HB.out | apply below_alloc | apply pw_below_drewN | apply below_drew1 | refine below_set ?_ GE159.out | refine below_set ?_ GE160.out) | exact HB.out)⟩
      · replace c15 := Bool.eq_false_iff.mpr c15
        subst c15
        have H1 : (some (IntKind.u16.wrap (Int.tmod (wrap64 ((wrap64 (a0_0)) + 4)) 65536), x160001_2, a0_2, a0_3, x160004_2, x5_2)) = some (r1, r2, r3, r4, r5, r6) := by rw [if_neg (show ¬ (false = true) by decide)] at H; exact H
        clear H
        have H := H1
        clear H1
        simp only [Option.some.injEq, Prod.mk.injEq] at H
        obtain ⟨rfl, rfl, rfl, rfl, rfl, rfl⟩ := H
        have hnb31 := NB159_160.out
        have hnc31 := NB160_159.out
        have hcz32_0 : wc.cell? ⟨gb159, 0, none⟩ = some (.int .u16 a0_0) := (blk_cell BK159.out 0).trans rfl
        have hcz32_1 : wc.cell? ⟨gb159, 1, none⟩ = some (.int .u8 x160001_2) := (blk_cell BK159.out 1).trans rfl
        have hcz32_2 : wc.cell? ⟨gb159, 2, none⟩ = some (.int .u8 a0_2) := (blk_cell BK159.out 2).trans rfl
        have hcz32_3 : wc.cell? ⟨gb159, 3, none⟩ = some (.int .u8 a0_3) := (blk_cell BK159.out 3).trans rfl
        have hcz32_4 : wc.cell? ⟨gb159, 4, none⟩ = some (.int .u8 x160004_2) := (blk_cell BK159.out 4).trans rfl
        have hfz32_0 := blk_frozen BK159.out 0
        have hfz32_1 := blk_frozen BK159.out 1
        have hfz32_2 := blk_frozen BK159.out 2
        have hfz32_3 := blk_frozen BK159.out 3
        have hfz32_4 := blk_frozen BK159.out 4
        have hcz33_0 : wc.cell? ⟨gb160, 0, none⟩ = some (.int .u16 0) := (blk_cell BK160.out 0).trans rfl
        have hcz33_1 : wc.cell? ⟨gb160, 1, none⟩ = some (.int .u8 0) := (blk_cell BK160.out 1).trans rfl
        have hcz33_2 : wc.cell? ⟨gb160, 2, none⟩ = some (.int .u8 0) := (blk_cell BK160.out 2).trans rfl
        have hcz33_3 : wc.cell? ⟨gb160, 3, none⟩ = some (.int .u8 0) := (blk_cell BK160.out 3).trans rfl
        have hcz33_4 : wc.cell? ⟨gb160, 4, none⟩ = some (.int .u8 0) := (blk_cell BK160.out 4).trans rfl
        have hfz33_0 := blk_frozen BK160.out 0
        have hfz33_1 := blk_frozen BK160.out 1
        have hfz33_2 := blk_frozen BK160.out 2
        have hfz33_3 := blk_frozen BK160.out 3
        have hfz33_4 := blk_frozen BK160.out 4
        go_wp2
        refine bodyPost_ret (results_ct rfl _ _ gb160 24 #[.int .u16 (IntKind.u16.wrap (Int.tmod (wrap64 ((wrap64 (a0_0)) + 4)) 65536)), .int .u8 x160001_2, .int .u8 a0_2, .int .u8 a0_3, .int .u8 x160004_2] (0, 0) _ rfl (by (with_reducible repeat (first | refine blk_drewN ?_ _ | refine blk_drew ?_ | refine blk_alloc ?_ _)); refine blk_put (cs := #[.int .u16 (IntKind.u16.wrap (Int.tmod (wrap64 ((wrap64 (a0_0)) + 4)) 65536)), .int .u8 x160001_2, .int .u8 a0_2, .int .u8 a0_3, .int .u8 0]) ?_ 4 _ rfl; (with_reducible repeat (first | refine blk_drewN ?_ _ | refine blk_drew ?_ | refine blk_alloc ?_ _)); refine blk_put (cs := #[.int .u16 (IntKind.u16.wrap (Int.tmod (wrap64 ((wrap64 (a0_0)) + 4)) 65536)), .int .u8 x160001_2, .int .u8 a0_2, .int .u8 0, .int .u8 0]) ?_ 3 _ rfl; (with_reducible repeat (first | refine blk_drewN ?_ _ | refine blk_drew ?_ | refine blk_alloc ?_ _)); refine blk_put (cs := #[.int .u16 (IntKind.u16.wrap (Int.tmod (wrap64 ((wrap64 (a0_0)) + 4)) 65536)), .int .u8 x160001_2, .int .u8 0, .int .u8 0, .int .u8 0]) ?_ 2 _ rfl; (with_reducible repeat (first | refine blk_drewN ?_ _ | refine blk_drew ?_ | refine blk_alloc ?_ _)); refine blk_put (cs := #[.int .u16 (IntKind.u16.wrap (Int.tmod (wrap64 ((wrap64 (a0_0)) + 4)) 65536)), .int .u8 0, .int .u8 0, .int .u8 0, .int .u8 0]) ?_ 1 _ rfl; (with_reducible repeat (first | refine blk_drewN ?_ _ | refine blk_drew ?_ | refine blk_alloc ?_ _)); refine blk_put (cs := #[.int .u16 0, .int .u8 0, .int .u8 0, .int .u8 0, .int .u8 0]) ?_ 0 _ rfl; (with_reducible repeat (first | refine blk_drewN ?_ _ | refine blk_drew ?_ | refine blk_alloc ?_ _)); refine blk_far ?_ NB160_159.out _; (with_reducible repeat (first | refine blk_drewN ?_ _ | refine blk_drew ?_ | refine blk_alloc ?_ _)); exact BK160.out) Try.underlying24 rfl (by kernel_rfl)) rfl ?_
        exact ⟨by first | rfl | (simp [errW_none, errW_some] <;> rfl) | (simp [*, errW_none, errW_some] <;> rfl), by repeat (first | (with_reducible first | exact HB.out | apply below_alloc | apply pw_below_drewN | apply below_drew1 | refine below_set ?_ GE159.out | refine below_set ?_ GE160.out) | exact HB.out)⟩

end Go.Proofs.Ytjfpbdecklkldaa.G
