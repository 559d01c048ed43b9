/- Written by a program of this session, after the kit's print: Go functions as Lean functions, each with the proof that the Go text comes to it. -/
import Derived.Test.YtmhoekdobodfeaaG0
import Derived.Test.YtmhoekdobodfeaaG7
import Derived.Test.YtmhoekdobodfeaaHDo
namespace Go.Proofs.Ytmhoekdobodfeaa.G
open Go.RowKit Go.Proofs.YtmhoekdobodfeaaW.PrintWords Go.Proofs.YtmhoekdobodfeaaW.PrintLast Go.Proofs.YtmhoekdobodfeaaW.PrintMore
attribute [local go_sem] max2_int min2_int max_two min_two max_three min_three max_four min_four   -- for this text's walks alone
set_option linter.unusedVariables false
set_option linter.unusedSimpArgs false

open Go.Proofs.Ytmhoekdobodfeaa.Hand
/-! ### whirligiglaw03_ShiftNines: function 7 -/
def whirligiglaw03_ShiftNines.l0 : Nat → Int → Bool → Int → Int → Int → Int → Bool → Bool → Bool → Bool → Bool → Bool → Bool → Bool → Bool → Bool → Bool → Bool → Option (Bool)
  | 0, _, _, _, _, _, _, _, _, _, _, _, _, _, _, _, _, _, _ => none
  | k + 1, x0, x5, x6, x8, x10, x11, x232000, x232001, x232002, x232003, x234000, x234001, x234002, x234003, x235000, x235001, x235002, x235003 => if x11 < 9 then ((shift_Do.f 2 x6 x234000 x234001 x234002 x234003).bind fun bt235 => ((shift_Do.f 3 x8 x235000 x235001 x235002 x235003).bind fun bt240 => (if x11 < 8 then ((shift_Do.f 0 x10 x232000 x232001 x232002 x232003).bind fun bt245 => (whirligiglaw03_ShiftNines.l0 k x0 x5 bt235.1 bt240.1 bt245.1 (wrap64 (x11 + 1)) x232000 x232001 x232002 x232003 bt235.2.1 bt235.2.2.1 bt235.2.2.2.1 bt235.2.2.2.2 bt240.2.1 bt240.2.2.1 bt240.2.2.2.1 bt240.2.2.2.2)) else (whirligiglaw03_ShiftNines.l0 k x0 x5 bt235.1 bt240.1 x10 (wrap64 (x11 + 1)) x232000 x232001 x232002 x232003 bt235.2.1 bt235.2.2.1 bt235.2.2.2.1 bt235.2.2.2.2 bt240.2.1 bt240.2.2.1 bt240.2.2.2.1 bt240.2.2.2.2)))) else (if x5 = true then (if x6 = x0 then (if (x234003 == x232003) = true then (if x8 = x0 then (if (x235003 == x232003) = true then (some (x10 == x0)) else (some false)) else (some false)) else (some false)) else (some false)) else (some false))
def whirligiglaw03_ShiftNines.f (k : Nat) (a0 : Int) (a1_0 : Bool) (a1_1 : Bool) (a1_2 : Bool) (a1_3 : Bool) : Option (Bool) := (whirligiglaw03_shown.f k).bind fun t232 => (whirligiglaw03_ShiftNines.l0 k a0 t232 a0 a0 a0 0 a1_0 a1_1 a1_2 a1_3 a1_0 a1_1 a1_2 a1_3 a1_0 a1_1 a1_2 a1_3)
theorem whirligiglaw03_ShiftNines.mono_l : ∀ k, (∀ y0 y1 y2 y3 y4 y5 y6 y7 y8 y9 y10 y11 y12 y13 y14 y15 y16 y17, LeO (whirligiglaw03_ShiftNines.l0 k y0 y1 y2 y3 y4 y5 y6 y7 y8 y9 y10 y11 y12 y13 y14 y15 y16 y17) (whirligiglaw03_ShiftNines.l0 (k + 1) y0 y1 y2 y3 y4 y5 y6 y7 y8 y9 y10 y11 y12 y13 y14 y15 y16 y17))
  | 0 => fun _ _ _ _ _ _ _ _ _ _ _ _ _ _ _ _ _ _ r h => by simp [whirligiglaw03_ShiftNines.l0] at h
  | k + 1 => by
    have ih0 := whirligiglaw03_ShiftNines.mono_l k
    · intro y0 y1 y2 y3 y4 y5 y6 y7 y8 y9 y10 y11 y12 y13 y14 y15 y16 y17
      unfold whirligiglaw03_ShiftNines.l0
      repeat' first
      | (with_reducible exact ih0 _ _ _ _ _ _ _ _ _ _ _ _ _ _ _ _ _ _)
      | (with_reducible exact whirligiglaw03_shown.mono _)
      | (with_reducible exact LeO.refl _)
      | (with_reducible exact LeO.none _)
      | (with_reducible refine LeO.ite ?_ ?_)
      | (with_reducible refine LeO.bind ?_ (fun _ => ?_))
      | exact ih0 _ _ _ _ _ _ _ _ _ _ _ _ _ _ _ _ _ _
      | exact whirligiglaw03_shown.mono _
      | exact LeO.none _
      | refine LeO.ite ?_ ?_
      | refine LeO.bind ?_ (fun _ => ?_)
theorem whirligiglaw03_ShiftNines.mono : ∀ a0 a1 a2 a3 a4 k, LeO (whirligiglaw03_ShiftNines.f k a0 a1 a2 a3 a4) (whirligiglaw03_ShiftNines.f (k + 1) a0 a1 a2 a3 a4) := by
  intro a0 a1 a2 a3 a4 k
  have ih0 := whirligiglaw03_ShiftNines.mono_l k
  unfold whirligiglaw03_ShiftNines.f
  repeat' first
      | (with_reducible exact ih0 _ _ _ _ _ _ _ _ _ _ _ _ _ _ _ _ _ _)
      | (with_reducible exact whirligiglaw03_shown.mono _)
      | (with_reducible exact LeO.refl _)
      | (with_reducible exact LeO.none _)
      | (with_reducible refine LeO.ite ?_ ?_)
      | (with_reducible refine LeO.bind ?_ (fun _ => ?_))
      | exact ih0 _ _ _ _ _ _ _ _ _ _ _ _ _ _ _ _ _ _
      | exact whirligiglaw03_shown.mono _
      | exact LeO.none _
      | refine LeO.ite ?_ ?_
      | refine LeO.bind ?_ (fun _ => ?_)
set_option maxHeartbeats 8000000 in
set_option maxRecDepth 100000 in
theorem whirligiglaw03_ShiftNines.calls (k : Nat) (a0 : Int) (a1_0 : Bool) (a1_1 : Bool) (a1_2 : Bool) (a1_3 : Bool) (r : Bool) (w : World) (h : whirligiglaw03_ShiftNines.f k a0 a1_0 a1_1 a1_2 a1_3 = some r) :
    Calls Try.prog 7 #[.int .u8 a0, .agg #[.bool a1_0, .bool a1_1, .bool a1_2, .bool a1_3]] w fun e w' => e = .returned (.bool r) ∧ Below w.heap.size w w' := by
  have hu23 := Try.underlying23
  have HB := Aside0.mk (Below.refl w.heap.size w)
  have H : ((whirligiglaw03_shown.f k).bind fun t232 => (whirligiglaw03_ShiftNines.l0 k a0 t232 a0 a0 a0 0 a1_0 a1_1 a1_2 a1_3 a1_0 a1_1 a1_2 a1_3 a1_0 a1_1 a1_2 a1_3)) = some r := h
  clear h
  replace H := Option.bind_eq_some_iff.mp H
  obtain ⟨t232, A30, H⟩ := H
  replace H : (whirligiglaw03_ShiftNines.l0 k a0 t232 a0 a0 a0 0 a1_0 a1_1 a1_2 a1_3 a1_0 a1_1 a1_2 a1_3 a1_0 a1_1 a1_2 a1_3) = some r := H
  have A3 := Aside0.mk A30
  clear A30
  have H' := Aside0.mk H
  clear H
  go_enter Try.func7, Try.ntmps7
  go_wp2_with (first | ((with_reducible refine gate_dst (N := 3) rfl ?_); refine box_event ?hg (N := 3) ?hd (cs := #[.bool a1_0, .bool a1_1, .bool a1_2, .bool a1_3]) (t := 23) ?hr ?_; (case hd => rfl); (case hg => rfl); (case hr => first | (go_simp; done) | (go_simp; rfl)); intro gb231 hg w4 hbox hb; have n0_ := Aside0.mk (below_step (by repeat (first | (with_reducible first | exact HB.out | apply below_alloc | apply pw_below_drewN | apply below_drew1) | exact HB.out)) hb); have n1_ := Aside0.mk (hbox); have n2_ := Aside0.mk ((by rw [hg]; exact (below_size (by repeat (first | (with_reducible first | exact HB.out | apply below_alloc | apply pw_below_drewN | apply below_drew1) | exact HB.out))) : w.heap.size ≤ gb231)); have n3_ := Aside0.mk ((by rw [hg]; exact (below_size (by repeat (first | (with_reducible first | exact HB.out | apply below_alloc | apply pw_below_drewN | apply below_drew1) | exact HB.out))) : w.heap.size ≤ gb231)); clear HB; have HB := n0_; have BK231 := n1_; have GW231 := n2_; have GE231 := n3_; clear n0_ n1_ n2_ n3_; clear hb hbox hg) | ((with_reducible refine gate_callee (f := 10) rfl ?_); refine goesL_ (some 12) rfl rfl Try.func10 (by kernel_rfl) rfl #[] rfl (by (try simp only [List.map_toArray, List.map_cons, List.map_nil]); first | done | rfl | (simp only [List.length_drop, List.length_take]; rfl)) ?_; (with_reducible refine (whirligiglaw03_shown.calls k  t232 _ A3.out).mono ?_); rintro e w5 ⟨rfl, hb⟩; refine ⟨_, rfl, ?_⟩; have n0_ := Aside0.mk (blk_below (g := gb231) (o := .cells #[.bool a1_0, .bool a1_1, .bool a1_2, .bool a1_3] 23 (0, 0)) (by (with_reducible repeat (first | refine blk_drewN ?_ _ | refine blk_drew ?_ | refine blk_alloc ?_ _)); exact BK231.out) hb); have n1_ := Aside0.mk (below_step (by repeat (first | (with_reducible first | exact HB.out | apply below_alloc | apply pw_below_drewN | apply below_drew1 | refine below_set ?_ GE231.out) | exact HB.out)) hb); clear BK231; clear HB; have BK231 := n0_; have HB := n1_; clear n0_ n1_; (try clear hb); (try clear hb2); (try clear hk); (try clear hi); have hcz6_0 : w5.cell? ⟨gb231, 0, none⟩ = some (.bool a1_0) := (blk_cell BK231.out 0).trans rfl; have hcz6_1 : w5.cell? ⟨gb231, 1, none⟩ = some (.bool a1_1) := (blk_cell BK231.out 1).trans rfl; have hcz6_2 : w5.cell? ⟨gb231, 2, none⟩ = some (.bool a1_2) := (blk_cell BK231.out 2).trans rfl; have hcz6_3 : w5.cell? ⟨gb231, 3, none⟩ = some (.bool a1_3) := (blk_cell BK231.out 3).trans rfl; have hfz6_0 := blk_frozen BK231.out 0; have hfz6_1 := blk_frozen BK231.out 1; have hfz6_2 := blk_frozen BK231.out 2; have hfz6_3 := blk_frozen BK231.out 3) | ((with_reducible refine gate_dst (N := 7) rfl ?_); refine box_event ?hg (N := 7) ?hd (cs := #[.bool false, .bool false, .bool false, .bool false]) (t := 23) ?hr ?_; (case hd => rfl); (case hg => rfl); (case hr => first | (go_simp; done) | (go_simp; rfl)); intro gb233 hg w7 hbox hb; have n0_ := Aside0.mk (blk_below (g := gb231) (o := .cells #[.bool a1_0, .bool a1_1, .bool a1_2, .bool a1_3] 23 (0, 0)) (by (with_reducible repeat (first | refine blk_drewN ?_ _ | refine blk_drew ?_ | refine blk_alloc ?_ _)); exact BK231.out) hb); have n1_ := Aside0.mk (below_step (by repeat (first | (with_reducible first | exact HB.out | apply below_alloc | apply pw_below_drewN | apply below_drew1 | refine below_set ?_ GE231.out) | exact HB.out)) hb); have n2_ := Aside0.mk (hbox); have n3_ := Aside0.mk ((by rw [hg]; exact (below_size (by repeat (first | (with_reducible first | exact HB.out | apply below_alloc | apply pw_below_drewN | apply below_drew1 | refine below_set ?_ GE231.out) | exact HB.out))) : w.heap.size ≤ gb233)); have n4_ := Aside0.mk ((by rw [hg]; exact (below_size (by repeat (first | (with_reducible first | exact HB.out | apply below_alloc | apply pw_below_drewN | apply below_drew1 | refine below_set ?_ GE231.out) | exact HB.out))) : w.heap.size ≤ gb233)); have n5_ := Aside0.mk ((by rw [hg]; exact Nat.ne_of_lt (blk_lt (g := gb231) (o := .cells #[.bool a1_0, .bool a1_1, .bool a1_2, .bool a1_3] 23 (0, 0)) (by (with_reducible repeat (first | refine blk_drewN ?_ _ | refine blk_drew ?_ | refine blk_alloc ?_ _)); exact BK231.out)) : gb231 ≠ gb233)); have n6_ := Aside0.mk ((by rw [hg]; exact Nat.ne_of_gt (blk_lt (g := gb231) (o := .cells #[.bool a1_0, .bool a1_1, .bool a1_2, .bool a1_3] 23 (0, 0)) (by (with_reducible repeat (first | refine blk_drewN ?_ _ | refine blk_drew ?_ | refine blk_alloc ?_ _)); exact BK231.out)) : gb233 ≠ gb231)); clear BK231; clear HB; have BK231 := n0_; have HB := n1_; have BK233 := n2_; have GW233 := n3_; have GE233 := n4_; have NB231_233 := n5_; have NB233_231 := n6_; clear n0_ n1_ n2_ n3_ n4_ n5_ n6_; clear hb hbox hg; have hnb8 := NB233_231.out; have hnc8 := NB231_233.out; have hcz9_0 : w7.cell? ⟨gb233, 0, none⟩ = some (.bool false) := (blk_cell BK233.out 0).trans rfl; have hcz9_1 : w7.cell? ⟨gb233, 1, none⟩ = some (.bool false) := (blk_cell BK233.out 1).trans rfl; have hcz9_2 : w7.cell? ⟨gb233, 2, none⟩ = some (.bool false) := (blk_cell BK233.out 2).trans rfl; have hcz9_3 : w7.cell? ⟨gb233, 3, none⟩ = some (.bool false) := (blk_cell BK233.out 3).trans rfl; have hfz9_0 := blk_frozen BK233.out 0; have hfz9_1 := blk_frozen BK233.out 1; have hfz9_2 := blk_frozen BK233.out 2; have hfz9_3 := blk_frozen BK233.out 3; have hcz10_0 : w7.cell? ⟨gb231, 0, none⟩ = some (.bool a1_0) := (blk_cell BK231.out 0).trans rfl; have hcz10_1 : w7.cell? ⟨gb231, 1, none⟩ = some (.bool a1_1) := (blk_cell BK231.out 1).trans rfl; have hcz10_2 : w7.cell? ⟨gb231, 2, none⟩ = some (.bool a1_2) := (blk_cell BK231.out 2).trans rfl; have hcz10_3 : w7.cell? ⟨gb231, 3, none⟩ = some (.bool a1_3) := (blk_cell BK231.out 3).trans rfl; have hfz10_0 := blk_frozen BK231.out 0; have hfz10_1 := blk_frozen BK231.out 1; have hfz10_2 := blk_frozen BK231.out 2; have hfz10_3 := blk_frozen BK231.out 3) | ((with_reducible refine gate_dst (N := 9) rfl ?_); refine box_event ?hg (N := 9) ?hd (cs := #[.bool false, .bool false, .bool false, .bool false]) (t := 23) ?hr ?_; (case hd => rfl); (case hg => rfl); (case hr => first | (go_simp; done) | (go_simp; rfl)); intro gb234 hg w11 hbox hb; have n0_ := Aside0.mk (blk_below (g := gb231) (o := .cells #[.bool a1_0, .bool a1_1, .bool a1_2, .bool a1_3] 23 (0, 0)) (by (with_reducible repeat (first | refine blk_drewN ?_ _ | refine blk_drew ?_ | refine blk_alloc ?_ _)); refine blk_far ?_ NB231_233.out _; (with_reducible repeat (first | refine blk_drewN ?_ _ | refine blk_drew ?_ | refine blk_alloc ?_ _)); refine blk_far ?_ NB231_233.out _; (with_reducible repeat (first | refine blk_drewN ?_ _ | refine blk_drew ?_ | refine blk_alloc ?_ _)); refine blk_far ?_ NB231_233.out _; (with_reducible repeat (first | refine blk_drewN ?_ _ | refine blk_drew ?_ | refine blk_alloc ?_ _)); refine blk_far ?_ NB231_233.out _; (with_reducible repeat (first | refine blk_drewN ?_ _ | refine blk_drew ?_ | refine blk_alloc ?_ _)); exact BK231.out) hb); have n1_ := Aside0.mk (blk_below (g := gb233) (o := .cells #[.bool a1_0, .bool a1_1, .bool a1_2, .bool a1_3] 23 (0, 0)) (by (with_reducible repeat (first | refine blk_drewN ?_ _ | refine blk_drew ?_ | refine blk_alloc ?_ _)); refine blk_put (cs := #[.bool a1_0, .bool a1_1, .bool a1_2, .bool false]) ?_ 3 _ rfl; (with_reducible repeat (first | refine blk_drewN ?_ _ | refine blk_drew ?_ | refine blk_alloc ?_ _)); refine blk_put (cs := #[.bool a1_0, .bool a1_1, .bool false, .bool false]) ?_ 2 _ rfl; (with_reducible repeat (first | refine blk_drewN ?_ _ | refine blk_drew ?_ | refine blk_alloc ?_ _)); refine blk_put (cs := #[.bool a1_0, .bool false, .bool false, .bool false]) ?_ 1 _ rfl; (with_reducible repeat (first | refine blk_drewN ?_ _ | refine blk_drew ?_ | refine blk_alloc ?_ _)); refine blk_put (cs := #[.bool false, .bool false, .bool false, .bool false]) ?_ 0 _ rfl; (with_reducible repeat (first | refine blk_drewN ?_ _ | refine blk_drew ?_ | refine blk_alloc ?_ _)); exact BK233.out) hb); have n2_ := Aside0.mk (below_step (by repeat (first | (with_reducible first | exact HB.out | apply below_alloc | apply pw_below_drewN | apply below_drew1 | refine below_set ?_ GE231.out | refine below_set ?_ GE233.out) | exact HB.out)) hb); have n3_ := Aside0.mk (hbox); have n4_ := Aside0.mk ((by rw [hg]; exact (below_size (by repeat (first | (with_reducible first | exact HB.out | apply below_alloc | apply pw_below_drewN | apply below_drew1 | refine below_set ?_ GE231.out | refine below_set ?_ GE233.out) | exact HB.out))) : w.heap.size ≤ gb234)); have n5_ := Aside0.mk ((by rw [hg]; exact (below_size (by repeat (first | (with_reducible first | exact HB.out | apply below_alloc | apply pw_below_drewN | apply below_drew1 | refine below_set ?_ GE231.out | refine below_set ?_ GE233.out) | exact HB.out))) : w.heap.size ≤ gb234)); have n6_ := Aside0.mk ((by rw [hg]; exact Nat.ne_of_lt (blk_lt (g := gb231) (o := .cells #[.bool a1_0, .bool a1_1, .bool a1_2, .bool a1_3] 23 (0, 0)) (by (with_reducible repeat (first | refine blk_drewN ?_ _ | refine blk_drew ?_ | refine blk_alloc ?_ _)); refine blk_far ?_ NB231_233.out _; (with_reducible repeat (first | refine blk_drewN ?_ _ | refine blk_drew ?_ | refine blk_alloc ?_ _)); refine blk_far ?_ NB231_233.out _; (with_reducible repeat (first | refine blk_drewN ?_ _ | refine blk_drew ?_ | refine blk_alloc ?_ _)); refine blk_far ?_ NB231_233.out _; (with_reducible repeat (first | refine blk_drewN ?_ _ | refine blk_drew ?_ | refine blk_alloc ?_ _)); refine blk_far ?_ NB231_233.out _; (with_reducible repeat (first | refine blk_drewN ?_ _ | refine blk_drew ?_ | refine blk_alloc ?_ _)); exact BK231.out)) : gb231 ≠ gb234)); have n7_ := Aside0.mk ((by rw [hg]; exact Nat.ne_of_gt (blk_lt (g := gb231) (o := .cells #[.bool a1_0, .bool a1_1, .bool a1_2, .bool a1_3] 23 (0, 0)) (by (with_reducible repeat (first | refine blk_drewN ?_ _ | refine blk_drew ?_ | refine blk_alloc ?_ _)); refine blk_far ?_ NB231_233.out _; (with_reducible repeat (first | refine blk_drewN ?_ _ | refine blk_drew ?_ | refine blk_alloc ?_ _)); refine blk_far ?_ NB231_233.out _; (with_reducible repeat (first | refine blk_drewN ?_ _ | refine blk_drew ?_ | refine blk_alloc ?_ _)); refine blk_far ?_ NB231_233.out _; (with_reducible repeat (first | refine blk_drewN ?_ _ | refine blk_drew ?_ | refine blk_alloc ?_ _)); refine blk_far ?_ NB231_233.out _; (with_reducible repeat (first | refine blk_drewN ?_ _ | refine blk_drew ?_ | refine blk_alloc ?_ _)); exact BK231.out)) : gb234 ≠ gb231)); have n8_ := Aside0.mk ((by rw [hg]; exact Nat.ne_of_lt (blk_lt (g := gb233) (o := .cells #[.bool a1_0, .bool a1_1, .bool a1_2, .bool a1_3] 23 (0, 0)) (by (with_reducible repeat (first | refine blk_drewN ?_ _ | refine blk_drew ?_ | refine blk_alloc ?_ _)); refine blk_put (cs := #[.bool a1_0, .bool a1_1, .bool a1_2, .bool false]) ?_ 3 _ rfl; (with_reducible repeat (first | refine blk_drewN ?_ _ | refine blk_drew ?_ | refine blk_alloc ?_ _)); refine blk_put (cs := #[.bool a1_0, .bool a1_1, .bool false, .bool false]) ?_ 2 _ rfl; (with_reducible repeat (first | refine blk_drewN ?_ _ | refine blk_drew ?_ | refine blk_alloc ?_ _)); refine blk_put (cs := #[.bool a1_0, .bool false, .bool false, .bool false]) ?_ 1 _ rfl; (with_reducible repeat (first | refine blk_drewN ?_ _ | refine blk_drew ?_ | refine blk_alloc ?_ _)); refine blk_put (cs := #[.bool false, .bool false, .bool false, .bool false]) ?_ 0 _ rfl; (with_reducible repeat (first | refine blk_drewN ?_ _ | refine blk_drew ?_ | refine blk_alloc ?_ _)); exact BK233.out)) : gb233 ≠ gb234)); have n9_ := Aside0.mk ((by rw [hg]; exact Nat.ne_of_gt (blk_lt (g := gb233) (o := .cells #[.bool a1_0, .bool a1_1, .bool a1_2, .bool a1_3] 23 (0, 0)) (by (with_reducible repeat (first | refine blk_drewN ?_ _ | refine blk_drew ?_ | refine blk_alloc ?_ _)); refine blk_put (cs := #[.bool a1_0, .bool a1_1, .bool a1_2, .bool false]) ?_ 3 _ rfl; (with_reducible repeat (first | refine blk_drewN ?_ _ | refine blk_drew ?_ | refine blk_alloc ?_ _)); refine blk_put (cs := #[.bool a1_0, .bool a1_1, .bool false, .bool false]) ?_ 2 _ rfl; (with_reducible repeat (first | refine blk_drewN ?_ _ | refine blk_drew ?_ | refine blk_alloc ?_ _)); refine blk_put (cs := #[.bool a1_0, .bool false, .bool false, .bool false]) ?_ 1 _ rfl; (with_reducible repeat (first | refine blk_drewN ?_ _ | refine blk_drew ?_ | refine blk_alloc ?_ _)); refine blk_put (cs := #[.bool false, .bool false, .bool false, .bool false]) ?_ 0 _ rfl; (with_reducible repeat (first | refine blk_drewN ?_ _ | refine blk_drew ?_ | refine blk_alloc ?_ _)); exact BK233.out)) : gb234 ≠ gb233)); clear BK231; clear BK233; clear HB; have BK231 := n0_; have BK233 := n1_; have HB := n2_; have BK234 := n3_; have GW234 := n4_; have GE234 := n5_; have NB231_234 := n6_; have NB234_231 := n7_; have NB233_234 := n8_; have NB234_233 := n9_; clear n0_ n1_ n2_ n3_ n4_ n5_ n6_ n7_ n8_ n9_; clear hb hbox hg; have hnb12 := NB234_231.out; have hnc12 := NB231_234.out; have hnb13 := NB234_233.out; have hnc13 := NB233_234.out; have hcz14_0 : w11.cell? ⟨gb234, 0, none⟩ = some (.bool false) := (blk_cell BK234.out 0).trans rfl; have hcz14_1 : w11.cell? ⟨gb234, 1, none⟩ = some (.bool false) := (blk_cell BK234.out 1).trans rfl; have hcz14_2 : w11.cell? ⟨gb234, 2, none⟩ = some (.bool false) := (blk_cell BK234.out 2).trans rfl; have hcz14_3 : w11.cell? ⟨gb234, 3, none⟩ = some (.bool false) := (blk_cell BK234.out 3).trans rfl; have hfz14_0 := blk_frozen BK234.out 0; have hfz14_1 := blk_frozen BK234.out 1; have hfz14_2 := blk_frozen BK234.out 2; have hfz14_3 := blk_frozen BK234.out 3))
  go_loopg [6, 8, 10, 11] k (fun kq v6 v8 v10 v11 w' => ∃ (x6_1 : Int) (x8_1 : Int) (x10_1 : Int) (x11_1 : Int) (x234000_1 : Bool) (x234001_1 : Bool) (x234002_1 : Bool) (x234003_1 : Bool) (x235000_1 : Bool) (x235001_1 : Bool) (x235002_1 : Bool) (x235003_1 : Bool), v6 = .int .u8 x6_1 ∧ v8 = .int .u8 x8_1 ∧ v10 = .int .u8 x10_1 ∧ v11 = .int .i64 x11_1 ∧ Aside0 (whirligiglaw03_ShiftNines.l0 kq a0 t232 x6_1 x8_1 x10_1 x11_1 a1_0 a1_1 a1_2 a1_3 x234000_1 x234001_1 x234002_1 x234003_1 x235000_1 x235001_1 x235002_1 x235003_1 = some r) ∧ Aside0 (kq ≤ k) ∧ Aside0 (w'.heap[gb231]? = some (.cells #[.bool a1_0, .bool a1_1, .bool a1_2, .bool a1_3] 23 (0, 0))) ∧ Aside0 (w'.heap[gb233]? = some (.cells #[.bool x234000_1, .bool x234001_1, .bool x234002_1, .bool x234003_1] 23 (0, 0))) ∧ Aside0 (w'.heap[gb234]? = some (.cells #[.bool x235000_1, .bool x235001_1, .bool x235002_1, .bool x235003_1] 23 (0, 0))) ∧ Aside0 (Below w.heap.size w w'))
  case atStart => exact ⟨(a0), (a0), (a0), (0), (a1_0), (a1_1), (a1_2), (a1_3), (a1_0), (a1_1), (a1_2), (a1_3), (by first | rfl | (simp; done) | (simp [*]; done)), (by first | rfl | (simp; done) | (simp [*]; done)), (by first | rfl | (simp; done) | (simp [*]; done)), (by first | rfl | (simp; done) | (simp [*]; done)), H', ⟨Nat.le_refl _⟩, ⟨by (with_reducible repeat (first | refine blk_drewN ?_ _ | refine blk_drew ?_ | refine blk_alloc ?_ _)); refine blk_far ?_ NB231_234.out _; (with_reducible repeat (first | refine blk_drewN ?_ _ | refine blk_drew ?_ | refine blk_alloc ?_ _)); refine blk_far ?_ NB231_234.out _; (with_reducible repeat (first | refine blk_drewN ?_ _ | refine blk_drew ?_ | refine blk_alloc ?_ _)); refine blk_far ?_ NB231_234.out _; (with_reducible repeat (first | refine blk_drewN ?_ _ | refine blk_drew ?_ | refine blk_alloc ?_ _)); refine blk_far ?_ NB231_234.out _; (with_reducible repeat (first | refine blk_drewN ?_ _ | refine blk_drew ?_ | refine blk_alloc ?_ _)); exact BK231.out⟩, ⟨by (with_reducible repeat (first | refine blk_drewN ?_ _ | refine blk_drew ?_ | refine blk_alloc ?_ _)); refine blk_far ?_ NB233_234.out _; (with_reducible repeat (first | refine blk_drewN ?_ _ | refine blk_drew ?_ | refine blk_alloc ?_ _)); refine blk_far ?_ NB233_234.out _; (with_reducible repeat (first | refine blk_drewN ?_ _ | refine blk_drew ?_ | refine blk_alloc ?_ _)); refine blk_far ?_ NB233_234.out _; (with_reducible repeat (first | refine blk_drewN ?_ _ | refine blk_drew ?_ | refine blk_alloc ?_ _)); refine blk_far ?_ NB233_234.out _; (with_reducible repeat (first | refine blk_drewN ?_ _ | refine blk_drew ?_ | refine blk_alloc ?_ _)); exact BK233.out⟩, ⟨by (with_reducible repeat (first | refine blk_drewN ?_ _ | refine blk_drew ?_ | refine blk_alloc ?_ _)); refine blk_put (cs := #[.bool a1_0, .bool a1_1, .bool a1_2, .bool false]) ?_ 3 _ rfl; (with_reducible repeat (first | refine blk_drewN ?_ _ | refine blk_drew ?_ | refine blk_alloc ?_ _)); refine blk_put (cs := #[.bool a1_0, .bool a1_1, .bool false, .bool false]) ?_ 2 _ rfl; (with_reducible repeat (first | refine blk_drewN ?_ _ | refine blk_drew ?_ | refine blk_alloc ?_ _)); refine blk_put (cs := #[.bool a1_0, .bool false, .bool false, .bool false]) ?_ 1 _ rfl; (with_reducible repeat (first | refine blk_drewN ?_ _ | refine blk_drew ?_ | refine blk_alloc ?_ _)); refine blk_put (cs := #[.bool false, .bool false, .bool false, .bool false]) ?_ 0 _ rfl; (with_reducible repeat (first | refine blk_drewN ?_ _ | refine blk_drew ?_ | refine blk_alloc ?_ _)); exact BK234.out⟩, ⟨by repeat (first | (with_reducible first | exact HB.out | apply below_alloc | apply pw_below_drewN | apply below_drew1 | refine below_set ?_ GE231.out | refine below_set ?_ GE233.out | refine below_set ?_ GE234.out) | exact HB.out)⟩⟩
  case round =>
    clear H'
    try clear c1
    try clear p2
    try clear c7
    try clear c8
    try clear c10
    try clear c12
    try clear c13
    try clear hcz10_0
    try clear hcz10_1
    try clear hcz10_2
    try clear hcz10_3
    try clear hcz14_0
    try clear hcz14_1
    try clear hcz14_2
    try clear hcz14_3
    try clear hcz6_0
    try clear hcz6_1
    try clear hcz6_2
    try clear hcz6_3
    try clear hcz9_0
    try clear hcz9_1
    try clear hcz9_2
    try clear hcz9_3
    try clear hfz10_0
    try clear hfz10_1
    try clear hfz10_2
    try clear hfz10_3
    try clear hfz14_0
    try clear hfz14_1
    try clear hfz14_2
    try clear hfz14_3
    try clear hfz6_0
    try clear hfz6_1
    try clear hfz6_2
    try clear hfz6_3
    try clear hfz9_0
    try clear hfz9_1
    try clear hfz9_2
    try clear hfz9_3
    obtain ⟨x6_1, x8_1, x10_1, x11_1, x234000_1, x234001_1, x234002_1, x234003_1, x235000_1, x235001_1, x235002_1, x235003_1, rfl, rfl, rfl, rfl, HA, HK1, BK231, BK233, BK234, HB⟩ := hrel
    cases gk with
    | zero => exact absurd HA.out (by simp [whirligiglaw03_ShiftNines.l0])
    | succ k1 =>
      have H := HA.out
      clear HA
      simp only [whirligiglaw03_ShiftNines.l0] at H
      by_cases c15 : x11_1 < 9
      · rw [if_pos c15] at H
        have c15b0 : decide (x11_1 < 9) = true := decide_eq_true c15
        clear c15
        replace H := Option.bind_eq_some_iff.mp H
        obtain ⟨⟨t235, t236, t237, t238, t239⟩, A160, H⟩ := H
        replace H : ((shift_Do.f 3 x8_1 x235000_1 x235001_1 x235002_1 x235003_1).bind fun bt240 => (if x11_1 < 8 then ((shift_Do.f 0 x10_1 a1_0 a1_1 a1_2 a1_3).bind fun bt245 => (whirligiglaw03_ShiftNines.l0 k1 a0 t232 t235 bt240.1 bt245.1 (wrap64 (x11_1 + 1)) a1_0 a1_1 a1_2 a1_3 t236 t237 t238 t239 bt240.2.1 bt240.2.2.1 bt240.2.2.2.1 bt240.2.2.2.2)) else (whirligiglaw03_ShiftNines.l0 k1 a0 t232 t235 bt240.1 x10_1 (wrap64 (x11_1 + 1)) a1_0 a1_1 a1_2 a1_3 t236 t237 t238 t239 bt240.2.1 bt240.2.2.1 bt240.2.2.2.1 bt240.2.2.2.2))) = some r := H
        have A16 := Aside0.mk A160
        clear A160
        replace H := Option.bind_eq_some_iff.mp H
        obtain ⟨⟨t240, t241, t242, t243, t244⟩, A170, H⟩ := H
        replace H : (if x11_1 < 8 then ((shift_Do.f 0 x10_1 a1_0 a1_1 a1_2 a1_3).bind fun bt245 => (whirligiglaw03_ShiftNines.l0 k1 a0 t232 t235 t240 bt245.1 (wrap64 (x11_1 + 1)) a1_0 a1_1 a1_2 a1_3 t236 t237 t238 t239 t241 t242 t243 t244)) else (whirligiglaw03_ShiftNines.l0 k1 a0 t232 t235 t240 x10_1 (wrap64 (x11_1 + 1)) a1_0 a1_1 a1_2 a1_3 t236 t237 t238 t239 t241 t242 t243 t244)) = some r := H
        have A17 := Aside0.mk A170
        clear A170
        by_cases c18 : x11_1 < 8
        · rw [if_pos c18] at H
          have c18b0 : decide (x11_1 < 8) = true := decide_eq_true c18
          clear c18
          replace H := Option.bind_eq_some_iff.mp H
          obtain ⟨⟨t245, t246, t247, t248, t249⟩, A190, H⟩ := H
          replace H : (whirligiglaw03_ShiftNines.l0 k1 a0 t232 t235 t240 t245 (wrap64 (x11_1 + 1)) a1_0 a1_1 a1_2 a1_3 t236 t237 t238 t239 t241 t242 t243 t244) = some r := H
          have A19 := Aside0.mk A190
          clear A190
          have H' := Aside0.mk H
          clear H
          have hnb20 := NB233_231.out
          have hnc20 := NB231_233.out
          have hnb21 := NB233_234.out
          have hnc21 := NB234_233.out
          have hcz22_0 : wr.cell? ⟨gb233, 0, none⟩ = some (.bool x234000_1) := (blk_cell BK233.out 0).trans rfl
          have hcz22_1 : wr.cell? ⟨gb233, 1, none⟩ = some (.bool x234001_1) := (blk_cell BK233.out 1).trans rfl
          have hcz22_2 : wr.cell? ⟨gb233, 2, none⟩ = some (.bool x234002_1) := (blk_cell BK233.out 2).trans rfl
          have hcz22_3 : wr.cell? ⟨gb233, 3, none⟩ = some (.bool x234003_1) := (blk_cell BK233.out 3).trans rfl
          have hfz22_0 := blk_frozen BK233.out 0
          have hfz22_1 := blk_frozen BK233.out 1
          have hfz22_2 := blk_frozen BK233.out 2
          have hfz22_3 := blk_frozen BK233.out 3
          go_wp2_with (first | ((with_reducible refine gate_callee (f := 11) rfl ?_); refine goesL_ (some 25) rfl rfl Try.func11 (by kernel_rfl) rfl #[.int .i64 2, .int .u8 x6_1, .agg #[.bool x234000_1, .bool x234001_1, .bool x234002_1, .bool x234003_1]] rfl (by (try simp only [List.map_toArray, List.map_cons, List.map_nil]); first | done | rfl | (simp only [List.length_drop, List.length_take]; rfl)) ?_; (with_reducible refine (shift_Do.calls 2 x6_1 x234000_1 x234001_1 x234002_1 x234003_1 t235 t236 t237 t238 t239 _ A16.out).mono ?_); rintro e w23 ⟨rfl, hb⟩; refine ⟨_, rfl, ?_⟩; have n0_ := Aside0.mk (blk_below (g := gb231) (o := .cells #[.bool a1_0, .bool a1_1, .bool a1_2, .bool a1_3] 23 (0, 0)) (by (with_reducible repeat (first | refine blk_drewN ?_ _ | refine blk_drew ?_ | refine blk_alloc ?_ _)); exact BK231.out) hb); have n1_ := Aside0.mk (blk_below (g := gb233) (o := .cells #[.bool x234000_1, .bool x234001_1, .bool x234002_1, .bool x234003_1] 23 (0, 0)) (by (with_reducible repeat (first | refine blk_drewN ?_ _ | refine blk_drew ?_ | refine blk_alloc ?_ _)); exact BK233.out) hb); have n2_ := Aside0.mk (blk_below (g := gb234) (o := .cells #[.bool x235000_1, .bool x235001_1, .bool x235002_1, .bool x235003_1] 23 (0, 0)) (by (with_reducible repeat (first | refine blk_drewN ?_ _ | refine blk_drew ?_ | refine blk_alloc ?_ _)); exact BK234.out) hb); have n3_ := Aside0.mk (below_step (by repeat (first | (with_reducible first | exact HB.out | apply below_alloc | apply pw_below_drewN | apply below_drew1 | refine below_set ?_ GE231.out | refine below_set ?_ GE233.out | refine below_set ?_ GE234.out) | exact HB.out)) hb); clear BK231; clear BK233; clear BK234; clear HB; have BK231 := n0_; have BK233 := n1_; have BK234 := n2_; have HB := n3_; clear n0_ n1_ n2_ n3_; (try clear hb); (try clear hb2); (try clear hk); (try clear hi); have hcz24_0 : w23.cell? ⟨gb233, 0, none⟩ = some (.bool x234000_1) := (blk_cell BK233.out 0).trans rfl; have hcz24_1 : w23.cell? ⟨gb233, 1, none⟩ = some (.bool x234001_1) := (blk_cell BK233.out 1).trans rfl; have hcz24_2 : w23.cell? ⟨gb233, 2, none⟩ = some (.bool x234002_1) := (blk_cell BK233.out 2).trans rfl; have hcz24_3 : w23.cell? ⟨gb233, 3, none⟩ = some (.bool x234003_1) := (blk_cell BK233.out 3).trans rfl; have hfz24_0 := blk_frozen BK233.out 0; have hfz24_1 := blk_frozen BK233.out 1; have hfz24_2 := blk_frozen BK233.out 2; have hfz24_3 := blk_frozen BK233.out 3; have hnb25 := NB234_231.out; have hnc25 := NB231_234.out; have hcz26_0 : w23.cell? ⟨gb234, 0, none⟩ = some (.bool x235000_1) := (blk_cell BK234.out 0).trans rfl; have hcz26_1 : w23.cell? ⟨gb234, 1, none⟩ = some (.bool x235001_1) := (blk_cell BK234.out 1).trans rfl; have hcz26_2 : w23.cell? ⟨gb234, 2, none⟩ = some (.bool x235002_1) := (blk_cell BK234.out 2).trans rfl; have hcz26_3 : w23.cell? ⟨gb234, 3, none⟩ = some (.bool x235003_1) := (blk_cell BK234.out 3).trans rfl; have hfz26_0 := blk_frozen BK234.out 0; have hfz26_1 := blk_frozen BK234.out 1; have hfz26_2 := blk_frozen BK234.out 2; have hfz26_3 := blk_frozen BK234.out 3) | ((with_reducible refine gate_callee (f := 11) rfl ?_); refine goesL_ (some 31) rfl rfl Try.func11 (by kernel_rfl) rfl #[.int .i64 3, .int .u8 x8_1, .agg #[.bool x235000_1, .bool x235001_1, .bool x235002_1, .bool x235003_1]] rfl (by (try simp only [List.map_toArray, List.map_cons, List.map_nil]); first | done | rfl | (simp only [List.length_drop, List.length_take]; rfl)) ?_; (with_reducible refine (shift_Do.calls 3 x8_1 x235000_1 x235001_1 x235002_1 x235003_1 t240 t241 t242 t243 t244 _ A17.out).mono ?_); rintro e w27 ⟨rfl, hb⟩; refine ⟨_, rfl, ?_⟩; have n0_ := Aside0.mk (blk_below (g := gb231) (o := .cells #[.bool a1_0, .bool a1_1, .bool a1_2, .bool a1_3] 23 (0, 0)) (by (with_reducible repeat (first | refine blk_drewN ?_ _ | refine blk_drew ?_ | refine blk_alloc ?_ _)); refine blk_far ?_ NB231_233.out _; (with_reducible repeat (first | refine blk_drewN ?_ _ | refine blk_drew ?_ | refine blk_alloc ?_ _)); refine blk_far ?_ NB231_233.out _; (with_reducible repeat (first | refine blk_drewN ?_ _ | refine blk_drew ?_ | refine blk_alloc ?_ _)); refine blk_far ?_ NB231_233.out _; (with_reducible repeat (first | refine blk_drewN ?_ _ | refine blk_drew ?_ | refine blk_alloc ?_ _)); refine blk_far ?_ NB231_233.out _; (with_reducible repeat (first | refine blk_drewN ?_ _ | refine blk_drew ?_ | refine blk_alloc ?_ _)); exact BK231.out) hb); have n1_ := Aside0.mk (blk_below (g := gb233) (o := .cells #[.bool t236, .bool t237, .bool t238, .bool t239] 23 (0, 0)) (by (with_reducible repeat (first | refine blk_drewN ?_ _ | refine blk_drew ?_ | refine blk_alloc ?_ _)); refine blk_put (cs := #[.bool t236, .bool t237, .bool t238, .bool x234003_1]) ?_ 3 _ rfl; (with_reducible repeat (first | refine blk_drewN ?_ _ | refine blk_drew ?_ | refine blk_alloc ?_ _)); refine blk_put (cs := #[.bool t236, .bool t237, .bool x234002_1, .bool x234003_1]) ?_ 2 _ rfl; (with_reducible repeat (first | refine blk_drewN ?_ _ | refine blk_drew ?_ | refine blk_alloc ?_ _)); refine blk_put (cs := #[.bool t236, .bool x234001_1, .bool x234002_1, .bool x234003_1]) ?_ 1 _ rfl; (with_reducible repeat (first | refine blk_drewN ?_ _ | refine blk_drew ?_ | refine blk_alloc ?_ _)); refine blk_put (cs := #[.bool x234000_1, .bool x234001_1, .bool x234002_1, .bool x234003_1]) ?_ 0 _ rfl; (with_reducible repeat (first | refine blk_drewN ?_ _ | refine blk_drew ?_ | refine blk_alloc ?_ _)); exact BK233.out) hb); have n2_ := Aside0.mk (blk_below (g := gb234) (o := .cells #[.bool x235000_1, .bool x235001_1, .bool x235002_1, .bool x235003_1] 23 (0, 0)) (by (with_reducible repeat (first | refine blk_drewN ?_ _ | refine blk_drew ?_ | refine blk_alloc ?_ _)); refine blk_far ?_ NB234_233.out _; (with_reducible repeat (first | refine blk_drewN ?_ _ | refine blk_drew ?_ | refine blk_alloc ?_ _)); refine blk_far ?_ NB234_233.out _; (with_reducible repeat (first | refine blk_drewN ?_ _ | refine blk_drew ?_ | refine blk_alloc ?_ _)); refine blk_far ?_ NB234_233.out _; (with_reducible repeat (first | refine blk_drewN ?_ _ | refine blk_drew ?_ | refine blk_alloc ?_ _)); refine blk_far ?_ NB234_233.out _; (with_reducible repeat (first | refine blk_drewN ?_ _ | refine blk_drew ?_ | refine blk_alloc ?_ _)); exact BK234.out) hb); have n3_ := Aside0.mk (below_step (by repeat (first | (with_reducible first | exact HB.out | apply below_alloc | apply pw_below_drewN | apply below_drew1 | refine below_set ?_ GE231.out | refine below_set ?_ GE233.out | refine below_set ?_ GE234.out) | exact HB.out)) hb); clear BK231; clear BK233; clear BK234; clear HB; have BK231 := n0_; have BK233 := n1_; have BK234 := n2_; have HB := n3_; clear n0_ n1_ n2_ n3_; (try clear hb); (try clear hb2); (try clear hk); (try clear hi); have hcz28_0 : w27.cell? ⟨gb234, 0, none⟩ = some (.bool x235000_1) := (blk_cell BK234.out 0).trans rfl; have hcz28_1 : w27.cell? ⟨gb234, 1, none⟩ = some (.bool x235001_1) := (blk_cell BK234.out 1).trans rfl; have hcz28_2 : w27.cell? ⟨gb234, 2, none⟩ = some (.bool x235002_1) := (blk_cell BK234.out 2).trans rfl; have hcz28_3 : w27.cell? ⟨gb234, 3, none⟩ = some (.bool x235003_1) := (blk_cell BK234.out 3).trans rfl; have hfz28_0 := blk_frozen BK234.out 0; have hfz28_1 := blk_frozen BK234.out 1; have hfz28_2 := blk_frozen BK234.out 2; have hfz28_3 := blk_frozen BK234.out 3; have hcz29_0 : w27.cell? ⟨gb231, 0, none⟩ = some (.bool a1_0) := (blk_cell BK231.out 0).trans rfl; have hcz29_1 : w27.cell? ⟨gb231, 1, none⟩ = some (.bool a1_1) := (blk_cell BK231.out 1).trans rfl; have hcz29_2 : w27.cell? ⟨gb231, 2, none⟩ = some (.bool a1_2) := (blk_cell BK231.out 2).trans rfl; have hcz29_3 : w27.cell? ⟨gb231, 3, none⟩ = some (.bool a1_3) := (blk_cell BK231.out 3).trans rfl; have hfz29_0 := blk_frozen BK231.out 0; have hfz29_1 := blk_frozen BK231.out 1; have hfz29_2 := blk_frozen BK231.out 2; have hfz29_3 := blk_frozen BK231.out 3) | ((with_reducible refine gate_callee (f := 11) rfl ?_); refine goesL_ (some 39) rfl rfl Try.func11 (by kernel_rfl) rfl #[.int .i64 0, .int .u8 x10_1, .agg #[.bool a1_0, .bool a1_1, .bool a1_2, .bool a1_3]] rfl (by (try simp only [List.map_toArray, List.map_cons, List.map_nil]); first | done | rfl | (simp only [List.length_drop, List.length_take]; rfl)) ?_; (with_reducible refine (shift_Do.calls 0 x10_1 a1_0 a1_1 a1_2 a1_3 t245 t246 t247 t248 t249 _ A19.out).mono ?_); rintro e w30 ⟨rfl, hb⟩; refine ⟨_, rfl, ?_⟩; have n0_ := Aside0.mk (blk_below (g := gb231) (o := .cells #[.bool a1_0, .bool a1_1, .bool a1_2, .bool a1_3] 23 (0, 0)) (by (with_reducible repeat (first | refine blk_drewN ?_ _ | refine blk_drew ?_ | refine blk_alloc ?_ _)); refine blk_far ?_ NB231_234.out _; (with_reducible repeat (first | refine blk_drewN ?_ _ | refine blk_drew ?_ | refine blk_alloc ?_ _)); refine blk_far ?_ NB231_234.out _; (with_reducible repeat (first | refine blk_drewN ?_ _ | refine blk_drew ?_ | refine blk_alloc ?_ _)); refine blk_far ?_ NB231_234.out _; (with_reducible repeat (first | refine blk_drewN ?_ _ | refine blk_drew ?_ | refine blk_alloc ?_ _)); refine blk_far ?_ NB231_234.out _; (with_reducible repeat (first | refine blk_drewN ?_ _ | refine blk_drew ?_ | refine blk_alloc ?_ _)); exact BK231.out) hb); have n1_ := Aside0.mk (blk_below (g := gb233) (o := .cells #[.bool t236, .bool t237, .bool t238, .bool t239] 23 (0, 0)) (by (with_reducible repeat (first | refine blk_drewN ?_ _ | refine blk_drew ?_ | refine blk_alloc ?_ _)); refine blk_far ?_ NB233_234.out _; (with_reducible repeat (first | refine blk_drewN ?_ _ | refine blk_drew ?_ | refine blk_alloc ?_ _)); refine blk_far ?_ NB233_234.out _; (with_reducible repeat (first | refine blk_drewN ?_ _ | refine blk_drew ?_ | refine blk_alloc ?_ _)); refine blk_far ?_ NB233_234.out _; (with_reducible repeat (first | refine blk_drewN ?_ _ | refine blk_drew ?_ | refine blk_alloc ?_ _)); refine blk_far ?_ NB233_234.out _; (with_reducible repeat (first | refine blk_drewN ?_ _ | refine blk_drew ?_ | refine blk_alloc ?_ _)); exact BK233.out) hb); have n2_ := Aside0.mk (blk_below (g := gb234) (o := .cells #[.bool t241, .bool t242, .bool t243, .bool t244] 23 (0, 0)) (by (with_reducible repeat (first | refine blk_drewN ?_ _ | refine blk_drew ?_ | refine blk_alloc ?_ _)); refine blk_put (cs := #[.bool t241, .bool t242, .bool t243, .bool x235003_1]) ?_ 3 _ rfl; (with_reducible repeat (first | refine blk_drewN ?_ _ | refine blk_drew ?_ | refine blk_alloc ?_ _)); refine blk_put (cs := #[.bool t241, .bool t242, .bool x235002_1, .bool x235003_1]) ?_ 2 _ rfl; (with_reducible repeat (first | refine blk_drewN ?_ _ | refine blk_drew ?_ | refine blk_alloc ?_ _)); refine blk_put (cs := #[.bool t241, .bool x235001_1, .bool x235002_1, .bool x235003_1]) ?_ 1 _ rfl; (with_reducible repeat (first | refine blk_drewN ?_ _ | refine blk_drew ?_ | refine blk_alloc ?_ _)); refine blk_put (cs := #[.bool x235000_1, .bool x235001_1, .bool x235002_1, .bool x235003_1]) ?_ 0 _ rfl; (with_reducible repeat (first | refine blk_drewN ?_ _ | refine blk_drew ?_ | refine blk_alloc ?_ _)); exact BK234.out) hb); have n3_ := Aside0.mk (below_step (by repeat (first | (with_reducible first | exact HB.out | apply below_alloc | apply pw_below_drewN | apply below_drew1 | refine below_set ?_ GE231.out | refine below_set ?_ GE233.out | refine below_set ?_ GE234.out) | exact HB.out)) hb); clear BK231; clear BK233; clear BK234; clear HB; have BK231 := n0_; have BK233 := n1_; have BK234 := n2_; have HB := n3_; clear n0_ n1_ n2_ n3_; (try clear hb); (try clear hb2); (try clear hk); (try clear hi)))
          go_roundg k1
          case measure => have := HK1.out; omega
          case rel => exact ⟨(t235), (t240), (t245), (wrap64 (x11_1 + 1)), (t236), (t237), (t238), (t239), (t241), (t242), (t243), (t244), (by first | rfl | (simp; done) | (simp [*]; done)), (by first | rfl | (simp; done) | (simp [*]; done)), (by first | rfl | (simp; done) | (simp [*]; done)), (by first | rfl | (simp; done) | (simp [*]; done)), H', ⟨by have := HK1.out; omega⟩, ⟨by (with_reducible repeat (first | refine blk_drewN ?_ _ | refine blk_drew ?_ | refine blk_alloc ?_ _)); exact BK231.out⟩, ⟨by (with_reducible repeat (first | refine blk_drewN ?_ _ | refine blk_drew ?_ | refine blk_alloc ?_ _)); exact BK233.out⟩, ⟨by (with_reducible repeat (first | refine blk_drewN ?_ _ | refine blk_drew ?_ | refine blk_alloc ?_ _)); exact BK234.out⟩, ⟨by repeat (first | (with_reducible first | exact HB.out | apply below_alloc | apply pw_below_drewN | apply below_drew1 | refine below_set ?_ GE231.out | refine below_set ?_ GE233.out | refine below_set ?_ GE234.out) | exact HB.out)⟩⟩
        · rw [if_neg c18] at H
          have c18b0 : decide (x11_1 < 8) = false := decide_eq_false c18
          clear c18
          have H' := Aside0.mk H
          clear H
          have hnb31 := NB233_231.out
          have hnc31 := NB231_233.out
          have hnb32 := NB233_234.out
          have hnc32 := NB234_233.out
          have hcz33_0 : wr.cell? ⟨gb233, 0, none⟩ = some (.bool x234000_1) := (blk_cell BK233.out 0).trans rfl
          have hcz33_1 : wr.cell? ⟨gb233, 1, none⟩ = some (.bool x234001_1) := (blk_cell BK233.out 1).trans rfl
          have hcz33_2 : wr.cell? ⟨gb233, 2, none⟩ = some (.bool x234002_1) := (blk_cell BK233.out 2).trans rfl
          have hcz33_3 : wr.cell? ⟨gb233, 3, none⟩ = some (.bool x234003_1) := (blk_cell BK233.out 3).trans rfl
          have hfz33_0 := blk_frozen BK233.out 0
          have hfz33_1 := blk_frozen BK233.out 1
          have hfz33_2 := blk_frozen BK233.out 2
          have hfz33_3 := blk_frozen BK233.out 3
          go_wp2_with (first | ((with_reducible refine gate_callee (f := 11) rfl ?_); refine goesL_ (some 25) rfl rfl Try.func11 (by kernel_rfl) rfl #[.int .i64 2, .int .u8 x6_1, .agg #[.bool x234000_1, .bool x234001_1, .bool x234002_1, .bool x234003_1]] rfl (by (try simp only [List.map_toArray, List.map_cons, List.map_nil]); first | done | rfl | (simp only [List.length_drop, List.length_take]; rfl)) ?_; (with_reducible refine (shift_Do.calls 2 x6_1 x234000_1 x234001_1 x234002_1 x234003_1 t235 t236 t237 t238 t239 _ A16.out).mono ?_); rintro e w34 ⟨rfl, hb⟩; refine ⟨_, rfl, ?_⟩; have n0_ := Aside0.mk (blk_below (g := gb231) (o := .cells #[.bool a1_0, .bool a1_1, .bool a1_2, .bool a1_3] 23 (0, 0)) (by (with_reducible repeat (first | refine blk_drewN ?_ _ | refine blk_drew ?_ | refine blk_alloc ?_ _)); exact BK231.out) hb); have n1_ := Aside0.mk (blk_below (g := gb233) (o := .cells #[.bool x234000_1, .bool x234001_1, .bool x234002_1, .bool x234003_1] 23 (0, 0)) (by (with_reducible repeat (first | refine blk_drewN ?_ _ | refine blk_drew ?_ | refine blk_alloc ?_ _)); exact BK233.out) hb); have n2_ := Aside0.mk (blk_below (g := gb234) (o := .cells #[.bool x235000_1, .bool x235001_1, .bool x235002_1, .bool x235003_1] 23 (0, 0)) (by (with_reducible repeat (first | refine blk_drewN ?_ _ | refine blk_drew ?_ | refine blk_alloc ?_ _)); exact BK234.out) hb); have n3_ := Aside0.mk (below_step (by repeat (first | (with_reducible first | exact HB.out | apply below_alloc | apply pw_below_drewN | apply below_drew1 | refine below_set ?_ GE231.out | refine below_set ?_ GE233.out | refine below_set ?_ GE234.out) | exact HB.out)) hb); clear BK231; clear BK233; clear BK234; clear HB; have BK231 := n0_; have BK233 := n1_; have BK234 := n2_; have HB := n3_; clear n0_ n1_ n2_ n3_; (try clear hb); (try clear hb2); (try clear hk); (try clear hi); have hcz35_0 : w34.cell? ⟨gb233, 0, none⟩ = some (.bool x234000_1) := (blk_cell BK233.out 0).trans rfl; have hcz35_1 : w34.cell? ⟨gb233, 1, none⟩ = some (.bool x234001_1) := (blk_cell BK233.out 1).trans rfl; have hcz35_2 : w34.cell? ⟨gb233, 2, none⟩ = some (.bool x234002_1) := (blk_cell BK233.out 2).trans rfl; have hcz35_3 : w34.cell? ⟨gb233, 3, none⟩ = some (.bool x234003_1) := (blk_cell BK233.out 3).trans rfl; have hfz35_0 := blk_frozen BK233.out 0; have hfz35_1 := blk_frozen BK233.out 1; have hfz35_2 := blk_frozen BK233.out 2; have hfz35_3 := blk_frozen BK233.out 3; have hnb36 := NB234_231.out; have hnc36 := NB231_234.out; have hcz37_0 : w34.cell? ⟨gb234, 0, none⟩ = some (.bool x235000_1) := (blk_cell BK234.out 0).trans rfl; have hcz37_1 : w34.cell? ⟨gb234, 1, none⟩ = some (.bool x235001_1) := (blk_cell BK234.out 1).trans rfl; have hcz37_2 : w34.cell? ⟨gb234, 2, none⟩ = some (.bool x235002_1) := (blk_cell BK234.out 2).trans rfl; have hcz37_3 : w34.cell? ⟨gb234, 3, none⟩ = some (.bool x235003_1) := (blk_cell BK234.out 3).trans rfl; have hfz37_0 := blk_frozen BK234.out 0; have hfz37_1 := blk_frozen BK234.out 1; have hfz37_2 := blk_frozen BK234.out 2; have hfz37_3 := blk_frozen BK234.out 3) | ((with_reducible refine gate_callee (f := 11) rfl ?_); refine goesL_ (some 31) rfl rfl Try.func11 (by kernel_rfl) rfl #[.int .i64 3, .int .u8 x8_1, .agg #[.bool x235000_1, .bool x235001_1, .bool x235002_1, .bool x235003_1]] rfl (by (try simp only [List.map_toArray, List.map_cons, List.map_nil]); first | done | rfl | (simp only [List.length_drop, List.length_take]; rfl)) ?_; (with_reducible refine (shift_Do.calls 3 x8_1 x235000_1 x235001_1 x235002_1 x235003_1 t240 t241 t242 t243 t244 _ A17.out).mono ?_); rintro e w38 ⟨rfl, hb⟩; refine ⟨_, rfl, ?_⟩; have n0_ := Aside0.mk (blk_below (g := gb231) (o := .cells #[.bool a1_0, .bool a1_1, .bool a1_2, .bool a1_3] 23 (0, 0)) (by (with_reducible repeat (first | refine blk_drewN ?_ _ | refine blk_drew ?_ | refine blk_alloc ?_ _)); refine blk_far ?_ NB231_233.out _; (with_reducible repeat (first | refine blk_drewN ?_ _ | refine blk_drew ?_ | refine blk_alloc ?_ _)); refine blk_far ?_ NB231_233.out _; (with_reducible repeat (first | refine blk_drewN ?_ _ | refine blk_drew ?_ | refine blk_alloc ?_ _)); refine blk_far ?_ NB231_233.out _; (with_reducible repeat (first | refine blk_drewN ?_ _ | refine blk_drew ?_ | refine blk_alloc ?_ _)); refine blk_far ?_ NB231_233.out _; (with_reducible repeat (first | refine blk_drewN ?_ _ | refine blk_drew ?_ | refine blk_alloc ?_ _)); exact BK231.out) hb); have n1_ := Aside0.mk (blk_below (g := gb233) (o := .cells #[.bool t236, .bool t237, .bool t238, .bool t239] 23 (0, 0)) (by (with_reducible repeat (first | refine blk_drewN ?_ _ | refine blk_drew ?_ | refine blk_alloc ?_ _)); refine blk_put (cs := #[.bool t236, .bool t237, .bool t238, .bool x234003_1]) ?_ 3 _ rfl; (with_reducible repeat (first | refine blk_drewN ?_ _ | refine blk_drew ?_ | refine blk_alloc ?_ _)); refine blk_put (cs := #[.bool t236, .bool t237, .bool x234002_1, .bool x234003_1]) ?_ 2 _ rfl; (with_reducible repeat (first | refine blk_drewN ?_ _ | refine blk_drew ?_ | refine blk_alloc ?_ _)); refine blk_put (cs := #[.bool t236, .bool x234001_1, .bool x234002_1, .bool x234003_1]) ?_ 1 _ rfl; (with_reducible repeat (first | refine blk_drewN ?_ _ | refine blk_drew ?_ | refine blk_alloc ?_ _)); refine blk_put (cs := #[.bool x234000_1, .bool x234001_1, .bool x234002_1, .bool x234003_1]) ?_ 0 _ rfl; (with_reducible repeat (first | refine blk_drewN ?_ _ | refine blk_drew ?_ | refine blk_alloc ?_ _)); exact BK233.out) hb); have n2_ := Aside0.mk (blk_below (g := gb234) (o := .cells #[.bool x235000_1, .bool x235001_1, .bool x235002_1, .bool x235003_1] 23 (0, 0)) (by (with_reducible repeat (first | refine blk_drewN ?_ _ | refine blk_drew ?_ | refine blk_alloc ?_ _)); refine blk_far ?_ NB234_233.out _; (with_reducible repeat (first | refine blk_drewN ?_ _ | refine blk_drew ?_ | refine blk_alloc ?_ _)); refine blk_far ?_ NB234_233.out _; (with_reducible repeat (first | refine blk_drewN ?_ _ | refine blk_drew ?_ | refine blk_alloc ?_ _)); refine blk_far ?_ NB234_233.out _; (with_reducible repeat (first | refine blk_drewN ?_ _ | refine blk_drew ?_ | refine blk_alloc ?_ _)); refine blk_far ?_ NB234_233.out _; (with_reducible repeat (first | refine blk_drewN ?_ _ | refine blk_drew ?_ | refine blk_alloc ?_ _)); exact BK234.out) hb); have n3_ := Aside0.mk (below_step (by repeat (first | (with_reducible first | exact HB.out | apply below_alloc | apply pw_below_drewN | apply below_drew1 | refine below_set ?_ GE231.out | refine below_set ?_ GE233.out | refine below_set ?_ GE234.out) | exact HB.out)) hb); clear BK231; clear BK233; clear BK234; clear HB; have BK231 := n0_; have BK233 := n1_; have BK234 := n2_; have HB := n3_; clear n0_ n1_ n2_ n3_; (try clear hb); (try clear hb2); (try clear hk); (try clear hi); have hcz39_0 : w38.cell? ⟨gb234, 0, none⟩ = some (.bool x235000_1) := (blk_cell BK234.out 0).trans rfl; have hcz39_1 : w38.cell? ⟨gb234, 1, none⟩ = some (.bool x235001_1) := (blk_cell BK234.out 1).trans rfl; have hcz39_2 : w38.cell? ⟨gb234, 2, none⟩ = some (.bool x235002_1) := (blk_cell BK234.out 2).trans rfl; have hcz39_3 : w38.cell? ⟨gb234, 3, none⟩ = some (.bool x235003_1) := (blk_cell BK234.out 3).trans rfl; have hfz39_0 := blk_frozen BK234.out 0; have hfz39_1 := blk_frozen BK234.out 1; have hfz39_2 := blk_frozen BK234.out 2; have hfz39_3 := blk_frozen BK234.out 3))
          go_roundg k1
          case measure => have := HK1.out; omega
          case rel => exact ⟨(t235), (t240), (x10_1), (wrap64 (x11_1 + 1)), (t236), (t237), (t238), (t239), (t241), (t242), (t243), (t244), (by first | rfl | (simp; done) | (simp [*]; done)), (by first | rfl | (simp; done) | (simp [*]; done)), (by first | rfl | (simp; done) | (simp [*]; done)), (by first | rfl | (simp; done) | (simp [*]; done)), H', ⟨by have := HK1.out; omega⟩, ⟨by (with_reducible repeat (first | refine blk_drewN ?_ _ | refine blk_drew ?_ | refine blk_alloc ?_ _)); refine blk_far ?_ NB231_234.out _; (with_reducible repeat (first | refine blk_drewN ?_ _ | refine blk_drew ?_ | refine blk_alloc ?_ _)); refine blk_far ?_ NB231_234.out _; (with_reducible repeat (first | refine blk_drewN ?_ _ | refine blk_drew ?_ | refine blk_alloc ?_ _)); refine blk_far ?_ NB231_234.out _; (with_reducible repeat (first | refine blk_drewN ?_ _ | refine blk_drew ?_ | refine blk_alloc ?_ _)); refine blk_far ?_ NB231_234.out _; (with_reducible repeat (first | refine blk_drewN ?_ _ | refine blk_drew ?_ | refine blk_alloc ?_ _)); exact BK231.out⟩, ⟨by (with_reducible repeat (first | refine blk_drewN ?_ _ | refine blk_drew ?_ | refine blk_alloc ?_ _)); refine blk_far ?_ NB233_234.out _; (with_reducible repeat (first | refine blk_drewN ?_ _ | refine blk_drew ?_ | refine blk_alloc ?_ _)); refine blk_far ?_ NB233_234.out _; (with_reducible repeat (first | refine blk_drewN ?_ _ | refine blk_drew ?_ | refine blk_alloc ?_ _)); refine blk_far ?_ NB233_234.out _; (with_reducible repeat (first | refine blk_drewN ?_ _ | refine blk_drew ?_ | refine blk_alloc ?_ _)); refine blk_far ?_ NB233_234.out _; (with_reducible repeat (first | refine blk_drewN ?_ _ | refine blk_drew ?_ | refine blk_alloc ?_ _)); exact BK233.out⟩, ⟨by (with_reducible repeat (first | refine blk_drewN ?_ _ | refine blk_drew ?_ | refine blk_alloc ?_ _)); refine blk_put (cs := #[.bool t241, .bool t242, .bool t243, .bool x235003_1]) ?_ 3 _ rfl; (with_reducible repeat (first | refine blk_drewN ?_ _ | refine blk_drew ?_ | refine blk_alloc ?_ _)); refine blk_put (cs := #[.bool t241, .bool t242, .bool x235002_1, .bool x235003_1]) ?_ 2 _ rfl; (with_reducible repeat (first | refine blk_drewN ?_ _ | refine blk_drew ?_ | refine blk_alloc ?_ _)); refine blk_put (cs := #[.bool t241, .bool x235001_1, .bool x235002_1, .bool x235003_1]) ?_ 1 _ rfl; (with_reducible repeat (first | refine blk_drewN ?_ _ | refine blk_drew ?_ | refine blk_alloc ?_ _)); refine blk_put (cs := #[.bool x235000_1, .bool x235001_1, .bool x235002_1, .bool x235003_1]) ?_ 0 _ rfl; (with_reducible repeat (first | refine blk_drewN ?_ _ | refine blk_drew ?_ | refine blk_alloc ?_ _)); exact BK234.out⟩, ⟨by repeat (first | (with_reducible first | exact HB.out | apply below_alloc | apply pw_below_drewN | apply below_drew1 | refine below_set ?_ GE231.out | refine below_set ?_ GE233.out | refine below_set ?_ GE234.out) | exact HB.out)⟩⟩
      · rw [if_neg c15] at H
        have c15b0 : decide (x11_1 < 9) = false := decide_eq_false c15
        clear c15
        by_cases c40 : t232 = true
        · subst c40
          have H1 : (if x6_1 = a0 then (if (x234003_1 == a1_3) = true then (if x8_1 = a0 then (if (x235003_1 == a1_3) = true then (some (x10_1 == a0)) else (some false)) else (some false)) else (some false)) else (some false)) = some r := by rw [if_pos rfl] at H; exact H
          clear H
          have H := H1
          clear H1
          by_cases c41 : x6_1 = a0
          · rw [if_pos c41] at H
            have c41b0 : (x6_1 == a0) = true := beq_iff_eq.mpr c41
            have c41b1 : (x6_1 != a0) = false := bne_eq_false_iff_eq.mpr c41
            clear c41
            by_cases c42 : (x234003_1 == a1_3) = true
            · rw [if_pos c42] at H
              have c42b0 : (x234003_1 == a1_3) = true := c42
              (try (have c42b1 : decide (x234003_1 = a1_3) = true := by simpa using c42))
              (try (have c42b2 : (x234003_1 == a1_3) = true := by simpa using c42))
              clear c42
              by_cases c43 : x8_1 = a0
              · rw [if_pos c43] at H
                have c43b0 : (x8_1 == a0) = true := beq_iff_eq.mpr c43
                have c43b1 : (x8_1 != a0) = false := bne_eq_false_iff_eq.mpr c43
                clear c43
                by_cases c44 : (x235003_1 == a1_3) = true
                · rw [if_pos c44] at H
                  have c44b0 : (x235003_1 == a1_3) = true := c44
                  (try (have c44b1 : decide (x235003_1 = a1_3) = true := by simpa using c44))
                  (try (have c44b2 : (x235003_1 == a1_3) = true := by simpa using c44))
                  clear c44
                  obtain rfl := Option.some.inj H
                  have hnb45 := NB233_231.out
                  have hnc45 := NB231_233.out
                  have hnb46 := NB233_234.out
                  have hnc46 := NB234_233.out
                  have hcz47_0 : wr.cell? ⟨gb233, 0, none⟩ = some (.bool x234000_1) := (blk_cell BK233.out 0).trans rfl
                  have hcz47_1 : wr.cell? ⟨gb233, 1, none⟩ = some (.bool x234001_1) := (blk_cell BK233.out 1).trans rfl
                  have hcz47_2 : wr.cell? ⟨gb233, 2, none⟩ = some (.bool x234002_1) := (blk_cell BK233.out 2).trans rfl
                  have hcz47_3 : wr.cell? ⟨gb233, 3, none⟩ = some (.bool x234003_1) := (blk_cell BK233.out 3).trans rfl
                  have hfz47_0 := blk_frozen BK233.out 0
                  have hfz47_1 := blk_frozen BK233.out 1
                  have hfz47_2 := blk_frozen BK233.out 2
                  have hfz47_3 := blk_frozen BK233.out 3
                  have hnb48 := NB231_234.out
                  have hnc48 := NB234_231.out
                  have hcz49_0 : wr.cell? ⟨gb231, 0, none⟩ = some (.bool a1_0) := (blk_cell BK231.out 0).trans rfl
                  have hcz49_1 : wr.cell? ⟨gb231, 1, none⟩ = some (.bool a1_1) := (blk_cell BK231.out 1).trans rfl
                  have hcz49_2 : wr.cell? ⟨gb231, 2, none⟩ = some (.bool a1_2) := (blk_cell BK231.out 2).trans rfl
                  have hcz49_3 : wr.cell? ⟨gb231, 3, none⟩ = some (.bool a1_3) := (blk_cell BK231.out 3).trans rfl
                  have hfz49_0 := blk_frozen BK231.out 0
                  have hfz49_1 := blk_frozen BK231.out 1
                  have hfz49_2 := blk_frozen BK231.out 2
                  have hfz49_3 := blk_frozen BK231.out 3
                  have hcz50_0 : wr.cell? ⟨gb234, 0, none⟩ = some (.bool x235000_1) := (blk_cell BK234.out 0).trans rfl
                  have hcz50_1 : wr.cell? ⟨gb234, 1, none⟩ = some (.bool x235001_1) := (blk_cell BK234.out 1).trans rfl
                  have hcz50_2 : wr.cell? ⟨gb234, 2, none⟩ = some (.bool x235002_1) := (blk_cell BK234.out 2).trans rfl
                  have hcz50_3 : wr.cell? ⟨gb234, 3, none⟩ = some (.bool x235003_1) := (blk_cell BK234.out 3).trans rfl
                  have hfz50_0 := blk_frozen BK234.out 0
                  have hfz50_1 := blk_frozen BK234.out 1
                  have hfz50_2 := blk_frozen BK234.out 2
                  have hfz50_3 := blk_frozen BK234.out 3
                  go_wp2
                  go_ret
                  exact ⟨by first | rfl | (simp [errW_none, errW_some] <;> rfl) | (simp [*, errW_none, errW_some] <;> rfl), by repeat (first | (with_reducible first | exact HB.out | apply below_alloc | apply pw_below_drewN | apply below_drew1 | refine below_set ?_ GE231.out | refine below_set ?_ GE233.out | refine below_set ?_ GE234.out) | exact HB.out)⟩
                · rw [if_neg c44] at H
                  have c44b0 : (x235003_1 == a1_3) = false := by simpa using c44
                  (try (have c44b1 : decide (x235003_1 = a1_3) = false := by simpa using c44))
                  (try (have c44b2 : (x235003_1 == a1_3) = false := by simpa using c44))
                  (try (have c44b3 : ¬ (x235003_1 = a1_3) := by simpa using c44))
                  clear c44
                  obtain rfl := Option.some.inj H
                  have hnb51 := NB233_231.out
                  have hnc51 := NB231_233.out
                  have hnb52 := NB233_234.out
                  have hnc52 := NB234_233.out
                  have hcz53_0 : wr.cell? ⟨gb233, 0, none⟩ = some (.bool x234000_1) := (blk_cell BK233.out 0).trans rfl
                  have hcz53_1 : wr.cell? ⟨gb233, 1, none⟩ = some (.bool x234001_1) := (blk_cell BK233.out 1).trans rfl
                  have hcz53_2 : wr.cell? ⟨gb233, 2, none⟩ = some (.bool x234002_1) := (blk_cell BK233.out 2).trans rfl
                  have hcz53_3 : wr.cell? ⟨gb233, 3, none⟩ = some (.bool x234003_1) := (blk_cell BK233.out 3).trans rfl
                  have hfz53_0 := blk_frozen BK233.out 0
                  have hfz53_1 := blk_frozen BK233.out 1
                  have hfz53_2 := blk_frozen BK233.out 2
                  have hfz53_3 := blk_frozen BK233.out 3
                  have hnb54 := NB231_234.out
                  have hnc54 := NB234_231.out
                  have hcz55_0 : wr.cell? ⟨gb231, 0, none⟩ = some (.bool a1_0) := (blk_cell BK231.out 0).trans rfl
                  have hcz55_1 : wr.cell? ⟨gb231, 1, none⟩ = some (.bool a1_1) := (blk_cell BK231.out 1).trans rfl
                  have hcz55_2 : wr.cell? ⟨gb231, 2, none⟩ = some (.bool a1_2) := (blk_cell BK231.out 2).trans rfl
                  have hcz55_3 : wr.cell? ⟨gb231, 3, none⟩ = some (.bool a1_3) := (blk_cell BK231.out 3).trans rfl
                  have hfz55_0 := blk_frozen BK231.out 0
                  have hfz55_1 := blk_frozen BK231.out 1
                  have hfz55_2 := blk_frozen BK231.out 2
                  have hfz55_3 := blk_frozen BK231.out 3
                  have hcz56_0 : wr.cell? ⟨gb234, 0, none⟩ = some (.bool x235000_1) := (blk_cell BK234.out 0).trans rfl
                  have hcz56_1 : wr.cell? ⟨gb234, 1, none⟩ = some (.bool x235001_1) := (blk_cell BK234.out 1).trans rfl
                  have hcz56_2 : wr.cell? ⟨gb234, 2, none⟩ = some (.bool x235002_1) := (blk_cell BK234.out 2).trans rfl
                  have hcz56_3 : wr.cell? ⟨gb234, 3, none⟩ = some (.bool x235003_1) := (blk_cell BK234.out 3).trans rfl
                  have hfz56_0 := blk_frozen BK234.out 0
                  have hfz56_1 := blk_frozen BK234.out 1
                  have hfz56_2 := blk_frozen BK234.out 2
                  have hfz56_3 := blk_frozen BK234.out 3
                  go_wp2
                  go_ret
                  exact ⟨by first | rfl | (simp [errW_none, errW_some] <;> rfl) | (simp [*, errW_none, errW_some] <;> rfl), by repeat (first | (with_reducible first | exact HB.out | apply below_alloc | apply pw_below_drewN | apply below_drew1 | refine below_set ?_ GE231.out | refine below_set ?_ GE233.out | refine below_set ?_ GE234.out) | exact HB.out)⟩
              · rw [if_neg c43] at H
                have c43b0 : (x8_1 == a0) = false := beq_eq_false_iff_ne.mpr c43
                have c43b1 : (x8_1 != a0) = true := bne_iff_ne.mpr c43
                obtain rfl := Option.some.inj H
                have hnb57 := NB233_231.out
                have hnc57 := NB231_233.out
                have hnb58 := NB233_234.out
                have hnc58 := NB234_233.out
                have hcz59_0 : wr.cell? ⟨gb233, 0, none⟩ = some (.bool x234000_1) := (blk_cell BK233.out 0).trans rfl
                have hcz59_1 : wr.cell? ⟨gb233, 1, none⟩ = some (.bool x234001_1) := (blk_cell BK233.out 1).trans rfl
                have hcz59_2 : wr.cell? ⟨gb233, 2, none⟩ = some (.bool x234002_1) := (blk_cell BK233.out 2).trans rfl
                have hcz59_3 : wr.cell? ⟨gb233, 3, none⟩ = some (.bool x234003_1) := (blk_cell BK233.out 3).trans rfl
                have hfz59_0 := blk_frozen BK233.out 0
                have hfz59_1 := blk_frozen BK233.out 1
                have hfz59_2 := blk_frozen BK233.out 2
                have hfz59_3 := blk_frozen BK233.out 3
                have hnb60 := NB231_234.out
                have hnc60 := NB234_231.out
                have hcz61_0 : wr.cell? ⟨gb231, 0, none⟩ = some (.bool a1_0) := (blk_cell BK231.out 0).trans rfl
                have hcz61_1 : wr.cell? ⟨gb231, 1, none⟩ = some (.bool a1_1) := (blk_cell BK231.out 1).trans rfl
                have hcz61_2 : wr.cell? ⟨gb231, 2, none⟩ = some (.bool a1_2) := (blk_cell BK231.out 2).trans rfl
                have hcz61_3 : wr.cell? ⟨gb231, 3, none⟩ = some (.bool a1_3) := (blk_cell BK231.out 3).trans rfl
                have hfz61_0 := blk_frozen BK231.out 0
                have hfz61_1 := blk_frozen BK231.out 1
                have hfz61_2 := blk_frozen BK231.out 2
                have hfz61_3 := blk_frozen BK231.out 3
                go_wp2
                go_ret
                exact ⟨by first | rfl | (simp [errW_none, errW_some] <;> rfl) | (simp [*, errW_none, errW_some] <;> rfl), by repeat (first | (with_reducible first | exact HB.out | apply below_alloc | apply pw_below_drewN | apply below_drew1 | refine below_set ?_ GE231.out | refine below_set ?_ GE233.out | refine below_set ?_ GE234.out) | exact HB.out)⟩
            · rw [if_neg c42] at H
              have c42b0 : (x234003_1 == a1_3) = false := by simpa using c42
              (try (have c42b1 : decide (x234003_1 = a1_3) = false := by simpa using c42))
              (try (have c42b2 : (x234003_1 == a1_3) = false := by simpa using c42))
              (try (have c42b3 : ¬ (x234003_1 = a1_3) := by simpa using c42))
              clear c42
              obtain rfl := Option.some.inj H
              have hnb62 := NB233_231.out
              have hnc62 := NB231_233.out
              have hnb63 := NB233_234.out
              have hnc63 := NB234_233.out
              have hcz64_0 : wr.cell? ⟨gb233, 0, none⟩ = some (.bool x234000_1) := (blk_cell BK233.out 0).trans rfl
              have hcz64_1 : wr.cell? ⟨gb233, 1, none⟩ = some (.bool x234001_1) := (blk_cell BK233.out 1).trans rfl
              have hcz64_2 : wr.cell? ⟨gb233, 2, none⟩ = some (.bool x234002_1) := (blk_cell BK233.out 2).trans rfl
              have hcz64_3 : wr.cell? ⟨gb233, 3, none⟩ = some (.bool x234003_1) := (blk_cell BK233.out 3).trans rfl
              have hfz64_0 := blk_frozen BK233.out 0
              have hfz64_1 := blk_frozen BK233.out 1
              have hfz64_2 := blk_frozen BK233.out 2
              have hfz64_3 := blk_frozen BK233.out 3
              have hnb65 := NB231_234.out
              have hnc65 := NB234_231.out
              have hcz66_0 : wr.cell? ⟨gb231, 0, none⟩ = some (.bool a1_0) := (blk_cell BK231.out 0).trans rfl
              have hcz66_1 : wr.cell? ⟨gb231, 1, none⟩ = some (.bool a1_1) := (blk_cell BK231.out 1).trans rfl
              have hcz66_2 : wr.cell? ⟨gb231, 2, none⟩ = some (.bool a1_2) := (blk_cell BK231.out 2).trans rfl
              have hcz66_3 : wr.cell? ⟨gb231, 3, none⟩ = some (.bool a1_3) := (blk_cell BK231.out 3).trans rfl
              have hfz66_0 := blk_frozen BK231.out 0
              have hfz66_1 := blk_frozen BK231.out 1
              have hfz66_2 := blk_frozen BK231.out 2
              have hfz66_3 := blk_frozen BK231.out 3
              go_wp2
              go_ret
              exact ⟨by first | rfl | (simp [errW_none, errW_some] <;> rfl) | (simp [*, errW_none, errW_some] <;> rfl), by repeat (first | (with_reducible first | exact HB.out | apply below_alloc | apply pw_below_drewN | apply below_drew1 | refine below_set ?_ GE231.out | refine below_set ?_ GE233.out | refine below_set ?_ GE234.out) | exact HB.out)⟩
          · rw [if_neg c41] at H
            have c41b0 : (x6_1 == a0) = false := beq_eq_false_iff_ne.mpr c41
            have c41b1 : (x6_1 != a0) = true := bne_iff_ne.mpr c41
            obtain rfl := Option.some.inj H
            go_wp2
            go_ret
            exact ⟨by first | rfl | (simp [errW_none, errW_some] <;> rfl) | (simp [*, errW_none, errW_some] <;> rfl), by repeat (first | (with_reducible first | exact HB.out | apply below_alloc | apply pw_below_drewN | apply below_drew1 | refine below_set ?_ GE231.out | refine below_set ?_ GE233.out | refine below_set ?_ GE234.out) | exact HB.out)⟩
        · replace c40 := Bool.eq_false_iff.mpr c40
          subst c40
          have H1 : (some false) = some r := by rw [if_neg (show ¬ (false = true) by decide)] at H; exact H
          clear H
          have H := H1
          clear H1
          obtain rfl := Option.some.inj H
          go_wp2
          go_ret
          exact ⟨by first | rfl | (simp [errW_none, errW_some] <;> rfl) | (simp [*, errW_none, errW_some] <;> rfl), by repeat (first | (with_reducible first | exact HB.out | apply below_alloc | apply pw_below_drewN | apply below_drew1 | refine below_set ?_ GE231.out | refine below_set ?_ GE233.out | refine below_set ?_ GE234.out) | exact HB.out)⟩

end Go.Proofs.Ytmhoekdobodfeaa.G
