/- Written by a program of this session, after the kit's print: Go functions as Lean functions, each with the proof that the Go text comes to it. -/
import Derived.Test.YtmhoekdobodfeaaG0
import Derived.Test.YtmhoekdobodfeaaG8
import Derived.Test.YtmhoekdobodfeaaG10
import Derived.Test.YtmhoekdobodfeaaG12
namespace Go.Proofs.Ytmhoekdobodfeaa.G
open Go.RowKit Go.Proofs.YtmhoekdobodfeaaW.PrintWords Go.Proofs.YtmhoekdobodfeaaW.PrintLast Go.Proofs.YtmhoekdobodfeaaW.PrintMore
attribute [local go_sem] max2_int min2_int max_two min_two max_three min_three max_four min_four   -- for this text's walks alone
set_option linter.unusedVariables false
set_option linter.unusedSimpArgs false

/-! ### whirligigref03_Do: function 12 -/
mutual
def whirligigref03_Do.j0 : Nat → Int → Int → Bool → Bool → Bool → Bool → Bool → Option (Int × Bool × Bool × Bool × Bool)
  | 0, _, _, _, _, _, _, _ => none
  | k + 1, x1, x8, x10, x145000, x145001, x145002, x145003 => (whirligigref01_Bit.f k x1 0).bind fun t147 => (if x10 = true then ((whirligigref01_Bit.f k x1 7).bind fun t148 => (whirligigref03_Do.j1 k x1 x8 x10 t148 x145000 x145001 x145002 x145003)) else (whirligigref03_Do.j1 k x1 x8 x10 t147 x145000 x145001 x145002 x145003))
def whirligigref03_Do.j1 : Nat → Int → Int → Bool → Bool → Bool → Bool → Bool → Bool → Option (Int × Bool × Bool × Bool × Bool)
  | 0, _, _, _, _, _, _, _, _ => none
  | k + 1, x1, x8, x10, x11, x145000, x145001, x145002, x145003 => if x8 = 0 then (whirligigref03_Do.j2 k x1 x10 x11 false x8 (x8 == 0) x145000 x145001 x145002 x145003) else (whirligigref03_Do.j2 k x1 x10 x11 false x8 (x8 == 1) x145000 x145001 x145002 x145003)
def whirligigref03_Do.j2 : Nat → Int → Bool → Bool → Bool → Int → Bool → Bool → Bool → Bool → Bool → Option (Int × Bool × Bool × Bool × Bool)
  | 0, _, _, _, _, _, _, _, _, _, _ => none
  | k + 1, x1, x10, x11, x12, x46, x47, x145000, x145001, x145002, x145003 => if x47 = true then ((whirligigref03_move.f k x1 x10 x11).bind fun t149 => (some (t149, (t149 == 0), false, false, x11))) else (if x46 = 2 then (whirligigref03_Do.j3 k x1 x10 x11 x12 x46 (x46 == 2) x145000 x145001 x145002 x145003) else (whirligigref03_Do.j3 k x1 x10 x11 x12 x46 (x46 == 3) x145000 x145001 x145002 x145003))
def whirligigref03_Do.j3 : Nat → Int → Bool → Bool → Bool → Int → Bool → Bool → Bool → Bool → Bool → Option (Int × Bool × Bool × Bool × Bool)
  | 0, _, _, _, _, _, _, _, _, _, _ => none
  | k + 1, x1, x10, x11, x12, x46, x51, x145000, x145001, x145002, x145003 => if x51 = true then ((whirligigref03_move.f k x1 x10 x145003).bind fun t150 => (some (t150, (t150 == 0), false, false, x11))) else (if x46 = 5 then ((whirligigref01_Bit.f k x1 7).bind fun t151 => ((whirligigref03_move.f k x1 x10 t151).bind fun t152 => (some (t152, (t152 == 0), false, false, x11)))) else ((whirligigref03_move.f k x1 x10 x12).bind fun t153 => (some (t153, (t153 == 0), false, false, x11))))
end
def whirligigref03_Do.f (k : Nat) (a0 : Int) (a1 : Int) (a2_0 : Bool) (a2_1 : Bool) (a2_2 : Bool) (a2_3 : Bool) : Option (Int × Bool × Bool × Bool × Bool) := (whirligigref02_Op.f a0).bind fun t146 => (if t146 = 6 then (some ((wrap64 ((wrap64 ((Int.tmod (wrap64 (a1)) 16) * 16)) + (wrap64 (Int.tdiv (wrap64 (a1)) 16)))) % 256, (((wrap64 ((wrap64 ((Int.tmod (wrap64 (a1)) 16) * 16)) + (wrap64 (Int.tdiv (wrap64 (a1)) 16)))) % 256) == 0), false, false, false)) else (if t146 = 0 then (whirligigref03_Do.j0 k a1 t146 true a2_0 a2_1 a2_2 a2_3) else (if t146 = 2 then (whirligigref03_Do.j0 k a1 t146 true a2_0 a2_1 a2_2 a2_3) else (whirligigref03_Do.j0 k a1 t146 (t146 == 4) a2_0 a2_1 a2_2 a2_3))))
theorem whirligigref03_Do.mono_l : ∀ k, (∀ y0 y1 y2 y3 y4 y5 y6, LeO (whirligigref03_Do.j0 k y0 y1 y2 y3 y4 y5 y6) (whirligigref03_Do.j0 (k + 1) y0 y1 y2 y3 y4 y5 y6)) ∧ (∀ y0 y1 y2 y3 y4 y5 y6 y7, LeO (whirligigref03_Do.j1 k y0 y1 y2 y3 y4 y5 y6 y7) (whirligigref03_Do.j1 (k + 1) y0 y1 y2 y3 y4 y5 y6 y7)) ∧ (∀ y0 y1 y2 y3 y4 y5 y6 y7 y8 y9, LeO (whirligigref03_Do.j2 k y0 y1 y2 y3 y4 y5 y6 y7 y8 y9) (whirligigref03_Do.j2 (k + 1) y0 y1 y2 y3 y4 y5 y6 y7 y8 y9)) ∧ (∀ y0 y1 y2 y3 y4 y5 y6 y7 y8 y9, LeO (whirligigref03_Do.j3 k y0 y1 y2 y3 y4 y5 y6 y7 y8 y9) (whirligigref03_Do.j3 (k + 1) y0 y1 y2 y3 y4 y5 y6 y7 y8 y9))
  | 0 => ⟨fun _ _ _ _ _ _ _ r h => by simp [whirligigref03_Do.j0] at h, fun _ _ _ _ _ _ _ _ r h => by simp [whirligigref03_Do.j1] at h, fun _ _ _ _ _ _ _ _ _ _ r h => by simp [whirligigref03_Do.j2] at h, fun _ _ _ _ _ _ _ _ _ _ r h => by simp [whirligigref03_Do.j3] at h⟩
  | k + 1 => by
    obtain ⟨ih0, ih1, ih2, ih3⟩ := whirligigref03_Do.mono_l k
    refine ⟨?_, ?_, ?_, ?_⟩
    · intro y0 y1 y2 y3 y4 y5 y6
      unfold whirligigref03_Do.j0
      repeat' first
      | (with_reducible exact ih0 _ _ _ _ _ _ _)
      | (with_reducible exact ih1 _ _ _ _ _ _ _ _)
      | (with_reducible exact ih2 _ _ _ _ _ _ _ _ _ _)
      | (with_reducible exact ih3 _ _ _ _ _ _ _ _ _ _)
      | (with_reducible exact whirligigref01_Bit.mono _ _ _)
      | (with_reducible exact whirligigref03_move.mono _ _ _ _)
      | (with_reducible exact LeO.refl _)
      | (with_reducible exact LeO.none _)
      | (with_reducible refine LeO.ite ?_ ?_)
      | (with_reducible refine LeO.bind ?_ (fun _ => ?_))
      | exact ih0 _ _ _ _ _ _ _
      | exact ih1 _ _ _ _ _ _ _ _
      | exact ih2 _ _ _ _ _ _ _ _ _ _
      | exact ih3 _ _ _ _ _ _ _ _ _ _
      | exact whirligigref01_Bit.mono _ _ _
      | exact whirligigref03_move.mono _ _ _ _
      | exact LeO.none _
      | refine LeO.ite ?_ ?_
      | refine LeO.bind ?_ (fun _ => ?_)
    · intro y0 y1 y2 y3 y4 y5 y6 y7
      unfold whirligigref03_Do.j1
      repeat' first
      | (with_reducible exact ih0 _ _ _ _ _ _ _)
      | (with_reducible exact ih1 _ _ _ _ _ _ _ _)
      | (with_reducible exact ih2 _ _ _ _ _ _ _ _ _ _)
      | (with_reducible exact ih3 _ _ _ _ _ _ _ _ _ _)
      | (with_reducible exact whirligigref01_Bit.mono _ _ _)
      | (with_reducible exact whirligigref03_move.mono _ _ _ _)
      | (with_reducible exact LeO.refl _)
      | (with_reducible exact LeO.none _)
      | (with_reducible refine LeO.ite ?_ ?_)
      | (with_reducible refine LeO.bind ?_ (fun _ => ?_))
      | exact ih0 _ _ _ _ _ _ _
      | exact ih1 _ _ _ _ _ _ _ _
      | exact ih2 _ _ _ _ _ _ _ _ _ _
      | exact ih3 _ _ _ _ _ _ _ _ _ _
      | exact whirligigref01_Bit.mono _ _ _
      | exact whirligigref03_move.mono _ _ _ _
      | exact LeO.none _
      | refine LeO.ite ?_ ?_
      | refine LeO.bind ?_ (fun _ => ?_)
    · intro y0 y1 y2 y3 y4 y5 y6 y7 y8 y9
      unfold whirligigref03_Do.j2
      repeat' first
      | (with_reducible exact ih0 _ _ _ _ _ _ _)
      | (with_reducible exact ih1 _ _ _ _ _ _ _ _)
      | (with_reducible exact ih2 _ _ _ _ _ _ _ _ _ _)
      | (with_reducible exact ih3 _ _ _ _ _ _ _ _ _ _)
      | (with_reducible exact whirligigref01_Bit.mono _ _ _)
      | (with_reducible exact whirligigref03_move.mono _ _ _ _)
      | (with_reducible exact LeO.refl _)
      | (with_reducible exact LeO.none _)
      | (with_reducible refine LeO.ite ?_ ?_)
      | (with_reducible refine LeO.bind ?_ (fun _ => ?_))
      | exact ih0 _ _ _ _ _ _ _
      | exact ih1 _ _ _ _ _ _ _ _
      | exact ih2 _ _ _ _ _ _ _ _ _ _
      | exact ih3 _ _ _ _ _ _ _ _ _ _
      | exact whirligigref01_Bit.mono _ _ _
      | exact whirligigref03_move.mono _ _ _ _
      | exact LeO.none _
      | refine LeO.ite ?_ ?_
      | refine LeO.bind ?_ (fun _ => ?_)
    · intro y0 y1 y2 y3 y4 y5 y6 y7 y8 y9
      unfold whirligigref03_Do.j3
      repeat' first
      | (with_reducible exact ih0 _ _ _ _ _ _ _)
      | (with_reducible exact ih1 _ _ _ _ _ _ _ _)
      | (with_reducible exact ih2 _ _ _ _ _ _ _ _ _ _)
      | (with_reducible exact ih3 _ _ _ _ _ _ _ _ _ _)
      | (with_reducible exact whirligigref01_Bit.mono _ _ _)
      | (with_reducible exact whirligigref03_move.mono _ _ _ _)
      | (with_reducible exact LeO.refl _)
      | (with_reducible exact LeO.none _)
      | (with_reducible refine LeO.ite ?_ ?_)
      | (with_reducible refine LeO.bind ?_ (fun _ => ?_))
      | exact ih0 _ _ _ _ _ _ _
      | exact ih1 _ _ _ _ _ _ _ _
      | exact ih2 _ _ _ _ _ _ _ _ _ _
      | exact ih3 _ _ _ _ _ _ _ _ _ _
      | exact whirligigref01_Bit.mono _ _ _
      | exact whirligigref03_move.mono _ _ _ _
      | exact LeO.none _
      | refine LeO.ite ?_ ?_
      | refine LeO.bind ?_ (fun _ => ?_)
theorem whirligigref03_Do.mono : ∀ a0 a1 a2 a3 a4 a5 k, LeO (whirligigref03_Do.f k a0 a1 a2 a3 a4 a5) (whirligigref03_Do.f (k + 1) a0 a1 a2 a3 a4 a5) := by
  intro a0 a1 a2 a3 a4 a5 k
  obtain ⟨ih0, ih1, ih2, ih3⟩ := whirligigref03_Do.mono_l k
  unfold whirligigref03_Do.f
  repeat' first
      | (with_reducible exact ih0 _ _ _ _ _ _ _)
      | (with_reducible exact ih1 _ _ _ _ _ _ _ _)
      | (with_reducible exact ih2 _ _ _ _ _ _ _ _ _ _)
      | (with_reducible exact ih3 _ _ _ _ _ _ _ _ _ _)
      | (with_reducible exact whirligigref01_Bit.mono _ _ _)
      | (with_reducible exact whirligigref03_move.mono _ _ _ _)
      | (with_reducible exact LeO.refl _)
      | (with_reducible exact LeO.none _)
      | (with_reducible refine LeO.ite ?_ ?_)
      | (with_reducible refine LeO.bind ?_ (fun _ => ?_))
      | exact ih0 _ _ _ _ _ _ _
      | exact ih1 _ _ _ _ _ _ _ _
      | exact ih2 _ _ _ _ _ _ _ _ _ _
      | exact ih3 _ _ _ _ _ _ _ _ _ _
      | exact whirligigref01_Bit.mono _ _ _
      | exact whirligigref03_move.mono _ _ _ _
      | exact LeO.none _
      | refine LeO.ite ?_ ?_
      | refine LeO.bind ?_ (fun _ => ?_)
set_option maxHeartbeats 8000000 in
set_option maxRecDepth 100000 in
theorem whirligigref03_Do.calls (k : Nat) (a0 : Int) (a1 : Int) (a2_0 : Bool) (a2_1 : Bool) (a2_2 : Bool) (a2_3 : Bool) (r1 : Int) (r2 : Bool) (r3 : Bool) (r4 : Bool) (r5 : Bool) (w : World) (h : whirligigref03_Do.f k a0 a1 a2_0 a2_1 a2_2 a2_3 = some (r1, r2, r3, r4, r5)) :
    Calls Try.prog 12 #[.int .i64 a0, .int .u8 a1, .agg #[.bool a2_0, .bool a2_1, .bool a2_2, .bool a2_3]] w fun e w' => e = .returned (.tuple #[.int .u8 r1, .agg #[.bool r2, .bool r3, .bool r4, .bool r5]]) ∧ Below w.heap.size w w' := by
  have hu23 := Try.underlying23
  have HB := Aside0.mk (Below.refl w.heap.size w)
  have H : ((whirligigref02_Op.f a0).bind fun t146 => (if t146 = 6 then (some ((wrap64 ((wrap64 ((Int.tmod (wrap64 (a1)) 16) * 16)) + (wrap64 (Int.tdiv (wrap64 (a1)) 16)))) % 256, (((wrap64 ((wrap64 ((Int.tmod (wrap64 (a1)) 16) * 16)) + (wrap64 (Int.tdiv (wrap64 (a1)) 16)))) % 256) == 0), false, false, false)) else (if t146 = 0 then (whirligigref03_Do.j0 k a1 t146 true a2_0 a2_1 a2_2 a2_3) else (if t146 = 2 then (whirligigref03_Do.j0 k a1 t146 true a2_0 a2_1 a2_2 a2_3) else (whirligigref03_Do.j0 k a1 t146 (t146 == 4) a2_0 a2_1 a2_2 a2_3))))) = some (r1, r2, r3, r4, r5) := h
  clear h
  replace H := Option.bind_eq_some_iff.mp H
  obtain ⟨t146, A40, H⟩ := H
  replace H : (if t146 = 6 then (some ((wrap64 ((wrap64 ((Int.tmod (wrap64 (a1)) 16) * 16)) + (wrap64 (Int.tdiv (wrap64 (a1)) 16)))) % 256, (((wrap64 ((wrap64 ((Int.tmod (wrap64 (a1)) 16) * 16)) + (wrap64 (Int.tdiv (wrap64 (a1)) 16)))) % 256) == 0), false, false, false)) else (if t146 = 0 then (whirligigref03_Do.j0 k a1 t146 true a2_0 a2_1 a2_2 a2_3) else (if t146 = 2 then (whirligigref03_Do.j0 k a1 t146 true a2_0 a2_1 a2_2 a2_3) else (whirligigref03_Do.j0 k a1 t146 (t146 == 4) a2_0 a2_1 a2_2 a2_3)))) = some (r1, r2, r3, r4, r5) := H
  have A4 := Aside0.mk A40
  clear A40
  by_cases c5 : t146 = 6
  · rw [if_pos c5] at H
    have c5b0 : (t146 == 6) = true := beq_iff_eq.mpr c5
    have c5b1 : (t146 != 6) = false := bne_eq_false_iff_eq.mpr c5
    clear c5
    simp only [Option.some.injEq, Prod.mk.injEq] at H
    obtain ⟨rfl, rfl, rfl, rfl, rfl⟩ := H
    go_enter Try.func12, Try.ntmps12
    go_wp2_with (first | ((with_reducible refine gate_dst (N := 5) rfl ?_); refine box_event ?hg (N := 5) ?hd (cs := #[.bool a2_0, .bool a2_1, .bool a2_2, .bool a2_3]) (t := 23) ?hr ?_; (case hd => rfl); (case hg => rfl); (case hr => first | (go_simp; done) | (go_simp; rfl)); intro gb144 hg w6 hbox hb; have n0_ := Aside0.mk (below_step (by repeat (first | (with_reducible first | exact HB.out | apply below_alloc | apply pw_below_drewN | apply below_drew1) | exact HB.out)) hb); have n1_ := Aside0.mk (hbox); have n2_ := Aside0.mk ((by rw [hg]; exact (below_size (by repeat (first | (with_reducible first | exact HB.out | apply below_alloc | apply pw_below_drewN | apply below_drew1) | exact HB.out))) : w.heap.size ≤ gb144)); have n3_ := Aside0.mk ((by rw [hg]; exact (below_size (by repeat (first | (with_reducible first | exact HB.out | apply below_alloc | apply pw_below_drewN | apply below_drew1) | exact HB.out))) : w.heap.size ≤ gb144)); clear HB; have HB := n0_; have BK144 := n1_; have GW144 := n2_; have GE144 := n3_; clear n0_ n1_ n2_ n3_; clear hb hbox hg) | ((with_reducible refine gate_dst (N := 7) rfl ?_); refine box_event ?hg (N := 7) ?hd (cs := #[.bool false, .bool false, .bool false, .bool false]) (t := 23) ?hr ?_; (case hd => rfl); (case hg => rfl); (case hr => first | (go_simp; done) | (go_simp; rfl)); intro gb145 hg w7 hbox hb; have n0_ := Aside0.mk (blk_below (g := gb144) (o := .cells #[.bool a2_0, .bool a2_1, .bool a2_2, .bool a2_3] 23 (0, 0)) (by (with_reducible repeat (first | refine blk_drewN ?_ _ | refine blk_drew ?_ | refine blk_alloc ?_ _)); exact BK144.out) hb); have n1_ := Aside0.mk (below_step (by repeat (first | (with_reducible first | exact HB.out | apply below_alloc | apply pw_below_drewN | apply below_drew1 | refine below_set ?_ GE144.out) | exact HB.out)) hb); have n2_ := Aside0.mk (hbox); have n3_ := Aside0.mk ((by rw [hg]; exact (below_size (by repeat (first | (with_reducible first | exact HB.out | apply below_alloc | apply pw_below_drewN | apply below_drew1 | refine below_set ?_ GE144.out) | exact HB.out))) : w.heap.size ≤ gb145)); have n4_ := Aside0.mk ((by rw [hg]; exact (below_size (by repeat (first | (with_reducible first | exact HB.out | apply below_alloc | apply pw_below_drewN | apply below_drew1 | refine below_set ?_ GE144.out) | exact HB.out))) : w.heap.size ≤ gb145)); have n5_ := Aside0.mk ((by rw [hg]; exact Nat.ne_of_lt (blk_lt (g := gb144) (o := .cells #[.bool a2_0, .bool a2_1, .bool a2_2, .bool a2_3] 23 (0, 0)) (by (with_reducible repeat (first | refine blk_drewN ?_ _ | refine blk_drew ?_ | refine blk_alloc ?_ _)); exact BK144.out)) : gb144 ≠ gb145)); have n6_ := Aside0.mk ((by rw [hg]; exact Nat.ne_of_gt (blk_lt (g := gb144) (o := .cells #[.bool a2_0, .bool a2_1, .bool a2_2, .bool a2_3] 23 (0, 0)) (by (with_reducible repeat (first | refine blk_drewN ?_ _ | refine blk_drew ?_ | refine blk_alloc ?_ _)); exact BK144.out)) : gb145 ≠ gb144)); clear BK144; clear HB; have BK144 := n0_; have HB := n1_; have BK145 := n2_; have GW145 := n3_; have GE145 := n4_; have NB144_145 := n5_; have NB145_144 := n6_; clear n0_ n1_ n2_ n3_ n4_ n5_ n6_; clear hb hbox hg) | ((with_reducible refine gate_callee (f := 25) rfl ?_); refine goesL_ (some 15) rfl rfl Try.func25 (by kernel_rfl) rfl #[.int .i64 a0] rfl (by (try simp only [List.map_toArray, List.map_cons, List.map_nil]); first | done | rfl | (simp only [List.length_drop, List.length_take]; rfl)) ?_; (with_reducible refine (whirligigref02_Op.calls a0 t146 _ A4.out).mono ?_); rintro e w' ⟨rfl, ⟨nd, rfl⟩⟩; refine ⟨_, rfl, ?_⟩; (try (rw [drewN_self w7]; generalize hq_ : World.drewN w7 _ = w7; have n0_ : Aside0 (w7.heap[gb144]? = some (.cells #[.bool a2_0, .bool a2_1, .bool a2_2, .bool a2_3] 23 (0, 0))) := ⟨by rw [← hq_]; exact (by (with_reducible repeat (first | refine blk_drewN ?_ _ | refine blk_drew ?_ | refine blk_alloc ?_ _)); exact BK144.out)⟩; have n1_ : Aside0 (w7.heap[gb145]? = some (.cells #[.bool false, .bool false, .bool false, .bool false] 23 (0, 0))) := ⟨by rw [← hq_]; exact (by (with_reducible repeat (first | refine blk_drewN ?_ _ | refine blk_drew ?_ | refine blk_alloc ?_ _)); exact BK145.out)⟩; have n2_ : Aside0 (Below w.heap.size w w7) := ⟨by rw [← hq_]; exact (by repeat (first | (with_reducible first | exact HB.out | apply below_alloc | apply pw_below_drewN | apply below_drew1 | refine below_set ?_ GE144.out | refine below_set ?_ GE145.out) | exact HB.out))⟩; clear BK144 BK145 HB hq_; have BK144 := n0_; have BK145 := n1_; have HB := n2_; clear n0_ n1_ n2_)); have hnb8 := NB145_144.out; have hnc8 := NB144_145.out; have hcz9_0 : w7.cell? ⟨gb145, 0, none⟩ = some (.bool false) := (blk_cell BK145.out 0).trans rfl; have hcz9_1 : w7.cell? ⟨gb145, 1, none⟩ = some (.bool false) := (blk_cell BK145.out 1).trans rfl; have hcz9_2 : w7.cell? ⟨gb145, 2, none⟩ = some (.bool false) := (blk_cell BK145.out 2).trans rfl; have hcz9_3 : w7.cell? ⟨gb145, 3, none⟩ = some (.bool false) := (blk_cell BK145.out 3).trans rfl; have hfz9_0 := blk_frozen BK145.out 0; have hfz9_1 := blk_frozen BK145.out 1; have hfz9_2 := blk_frozen BK145.out 2; have hfz9_3 := blk_frozen BK145.out 3))
    refine bodyPost_ret (results_tc rfl _ _ gb145 23 #[.bool (((wrap64 ((wrap64 ((Int.tmod (wrap64 (a1)) 16) * 16)) + (wrap64 (Int.tdiv (wrap64 (a1)) 16)))) % 256) == 0), .bool false, .bool false, .bool false] (0, 0) _ rfl (by (with_reducible repeat (first | refine blk_drewN ?_ _ | refine blk_drew ?_ | refine blk_alloc ?_ _)); refine blk_put (cs := #[.bool (((wrap64 ((wrap64 ((Int.tmod (wrap64 (a1)) 16) * 16)) + (wrap64 (Int.tdiv (wrap64 (a1)) 16)))) % 256) == 0), .bool false, .bool false, .bool false]) ?_ 3 _ rfl; (with_reducible repeat (first | refine blk_drewN ?_ _ | refine blk_drew ?_ | refine blk_alloc ?_ _)); refine blk_put (cs := #[.bool (((wrap64 ((wrap64 ((Int.tmod (wrap64 (a1)) 16) * 16)) + (wrap64 (Int.tdiv (wrap64 (a1)) 16)))) % 256) == 0), .bool false, .bool false, .bool false]) ?_ 2 _ rfl; (with_reducible repeat (first | refine blk_drewN ?_ _ | refine blk_drew ?_ | refine blk_alloc ?_ _)); refine blk_put (cs := #[.bool (((wrap64 ((wrap64 ((Int.tmod (wrap64 (a1)) 16) * 16)) + (wrap64 (Int.tdiv (wrap64 (a1)) 16)))) % 256) == 0), .bool false, .bool false, .bool false]) ?_ 1 _ rfl; (with_reducible repeat (first | refine blk_drewN ?_ _ | refine blk_drew ?_ | refine blk_alloc ?_ _)); refine blk_put (cs := #[.bool false, .bool false, .bool false, .bool false]) ?_ 0 _ rfl; (with_reducible repeat (first | refine blk_drewN ?_ _ | refine blk_drew ?_ | refine blk_alloc ?_ _)); exact BK145.out) Try.underlying23 rfl (by kernel_rfl)) rfl ?_
    exact ⟨by first | rfl | (simp [errW_none, errW_some] <;> rfl) | (simp [*, errW_none, errW_some] <;> rfl), by repeat (first | (with_reducible first | exact HB.out | apply below_alloc | apply pw_below_drewN | apply below_drew1 | refine below_set ?_ GE144.out | refine below_set ?_ GE145.out) | exact HB.out)⟩
  · rw [if_neg c5] at H
    have c5b0 : (t146 == 6) = false := beq_eq_false_iff_ne.mpr c5
    have c5b1 : (t146 != 6) = true := bne_iff_ne.mpr c5
    have HC10 := Aside0.mk H
    clear H
    go_enter Try.func12, Try.ntmps12
    go_upto_region 5 with (first | ((with_reducible refine gate_dst (N := 5) rfl ?_); refine box_event ?hg (N := 5) ?hd (cs := #[.bool a2_0, .bool a2_1, .bool a2_2, .bool a2_3]) (t := 23) ?hr ?_; (case hd => rfl); (case hg => rfl); (case hr => first | (go_simp; done) | (go_simp; rfl)); intro gb144 hg w11 hbox hb; have n0_ := Aside0.mk (below_step (by repeat (first | (with_reducible first | exact HB.out | apply below_alloc | apply pw_below_drewN | apply below_drew1) | exact HB.out)) hb); have n1_ := Aside0.mk (hbox); have n2_ := Aside0.mk ((by rw [hg]; exact (below_size (by repeat (first | (with_reducible first | exact HB.out | apply below_alloc | apply pw_below_drewN | apply below_drew1) | exact HB.out))) : w.heap.size ≤ gb144)); have n3_ := Aside0.mk ((by rw [hg]; exact (below_size (by repeat (first | (with_reducible first | exact HB.out | apply below_alloc | apply pw_below_drewN | apply below_drew1) | exact HB.out))) : w.heap.size ≤ gb144)); clear HB; have HB := n0_; have BK144 := n1_; have GW144 := n2_; have GE144 := n3_; clear n0_ n1_ n2_ n3_; clear hb hbox hg) | ((with_reducible refine gate_dst (N := 7) rfl ?_); refine box_event ?hg (N := 7) ?hd (cs := #[.bool false, .bool false, .bool false, .bool false]) (t := 23) ?hr ?_; (case hd => rfl); (case hg => rfl); (case hr => first | (go_simp; done) | (go_simp; rfl)); intro gb145 hg w12 hbox hb; have n0_ := Aside0.mk (blk_below (g := gb144) (o := .cells #[.bool a2_0, .bool a2_1, .bool a2_2, .bool a2_3] 23 (0, 0)) (by (with_reducible repeat (first | refine blk_drewN ?_ _ | refine blk_drew ?_ | refine blk_alloc ?_ _)); exact BK144.out) hb); have n1_ := Aside0.mk (below_step (by repeat (first | (with_reducible first | exact HB.out | apply below_alloc | apply pw_below_drewN | apply below_drew1 | refine below_set ?_ GE144.out) | exact HB.out)) hb); have n2_ := Aside0.mk (hbox); have n3_ := Aside0.mk ((by rw [hg]; exact (below_size (by repeat (first | (with_reducible first | exact HB.out | apply below_alloc | apply pw_below_drewN | apply below_drew1 | refine below_set ?_ GE144.out) | exact HB.out))) : w.heap.size ≤ gb145)); have n4_ := Aside0.mk ((by rw [hg]; exact (below_size (by repeat (first | (with_reducible first | exact HB.out | apply below_alloc | apply pw_below_drewN | apply below_drew1 | refine below_set ?_ GE144.out) | exact HB.out))) : w.heap.size ≤ gb145)); have n5_ := Aside0.mk ((by rw [hg]; exact Nat.ne_of_lt (blk_lt (g := gb144) (o := .cells #[.bool a2_0, .bool a2_1, .bool a2_2, .bool a2_3] 23 (0, 0)) (by (with_reducible repeat (first | refine blk_drewN ?_ _ | refine blk_drew ?_ | refine blk_alloc ?_ _)); exact BK144.out)) : gb144 ≠ gb145)); have n6_ := Aside0.mk ((by rw [hg]; exact Nat.ne_of_gt (blk_lt (g := gb144) (o := .cells #[.bool a2_0, .bool a2_1, .bool a2_2, .bool a2_3] 23 (0, 0)) (by (with_reducible repeat (first | refine blk_drewN ?_ _ | refine blk_drew ?_ | refine blk_alloc ?_ _)); exact BK144.out)) : gb145 ≠ gb144)); clear BK144; clear HB; have BK144 := n0_; have HB := n1_; have BK145 := n2_; have GW145 := n3_; have GE145 := n4_; have NB144_145 := n5_; have NB145_144 := n6_; clear n0_ n1_ n2_ n3_ n4_ n5_ n6_; clear hb hbox hg) | ((with_reducible refine gate_callee (f := 25) rfl ?_); refine goesL_ (some 15) rfl rfl Try.func25 (by kernel_rfl) rfl #[.int .i64 a0] rfl (by (try simp only [List.map_toArray, List.map_cons, List.map_nil]); first | done | rfl | (simp only [List.length_drop, List.length_take]; rfl)) ?_; (with_reducible refine (whirligigref02_Op.calls a0 t146 _ A4.out).mono ?_); rintro e w' ⟨rfl, ⟨nd, rfl⟩⟩; refine ⟨_, rfl, ?_⟩))
    (try simp only [Act.put, List.setIfInBounds_toArray, List.set_cons_zero, List.set_cons_succ])
    go_cut [10] (fun v10 wc => ∃ (kq : Nat) (x10_9 : Bool), v10 = .bool x10_9 ∧ Aside0 (whirligigref03_Do.j0 kq a1 t146 x10_9 a2_0 a2_1 a2_2 a2_3 = some (r1, r2, r3, r4, r5)) ∧ Aside0 (kq ≤ k) ∧ Aside0 (wc.heap[gb144]? = some (.cells #[.bool a2_0, .bool a2_1, .bool a2_2, .bool a2_3] 23 (0, 0))) ∧ Aside0 (wc.heap[gb145]? = some (.cells #[.bool false, .bool false, .bool false, .bool false] 23 (0, 0))) ∧ Aside0 (Below w.heap.size w wc))
    case first =>
      have H := HC10.out
      clear HC10
      by_cases c13 : t146 = 0
      · rw [if_pos c13] at H
        have c13b0 : (t146 == 0) = true := beq_iff_eq.mpr c13
        have c13b1 : (t146 != 0) = false := bne_eq_false_iff_eq.mpr c13
        clear c13
        (first | rw [c13b0] | (simp only [i64_w, i32_w]; rw [c13b0]) | skip)
        have H' := Aside0.mk H
        clear H
        go_wp2
        go_meet
        case rel => exact ⟨_, (true), (by first | rfl | (simp; done) | (simp [*]; done)), H', ⟨by first | omega | exact Nat.le_refl _⟩, ⟨by (with_reducible repeat (first | refine blk_drewN ?_ _ | refine blk_drew ?_ | refine blk_alloc ?_ _)); exact BK144.out⟩, ⟨by (with_reducible repeat (first | refine blk_drewN ?_ _ | refine blk_drew ?_ | refine blk_alloc ?_ _)); exact BK145.out⟩, ⟨by repeat (first | (with_reducible first | exact HB.out | apply below_alloc | apply pw_below_drewN | apply below_drew1 | refine below_set ?_ GE144.out | refine below_set ?_ GE145.out) | exact HB.out)⟩⟩
      · rw [if_neg c13] at H
        have c13b0 : (t146 == 0) = false := beq_eq_false_iff_ne.mpr c13
        have c13b1 : (t146 != 0) = true := bne_iff_ne.mpr c13
        (first | rw [c13b0] | (simp only [i64_w, i32_w]; rw [c13b0]) | skip)
        by_cases c14 : t146 = 2
        · rw [if_pos c14] at H
          have c14b0 : (t146 == 2) = true := beq_iff_eq.mpr c14
          have c14b1 : (t146 != 2) = false := bne_eq_false_iff_eq.mpr c14
          clear c14
          have H' := Aside0.mk H
          clear H
          go_wp2
          go_meet
          case rel => exact ⟨_, (true), (by first | rfl | (simp; done) | (simp [*]; done)), H', ⟨by first | omega | exact Nat.le_refl _⟩, ⟨by (with_reducible repeat (first | refine blk_drewN ?_ _ | refine blk_drew ?_ | refine blk_alloc ?_ _)); exact BK144.out⟩, ⟨by (with_reducible repeat (first | refine blk_drewN ?_ _ | refine blk_drew ?_ | refine blk_alloc ?_ _)); exact BK145.out⟩, ⟨by repeat (first | (with_reducible first | exact HB.out | apply below_alloc | apply pw_below_drewN | apply below_drew1 | refine below_set ?_ GE144.out | refine below_set ?_ GE145.out) | exact HB.out)⟩⟩
        · rw [if_neg c14] at H
          have c14b0 : (t146 == 2) = false := beq_eq_false_iff_ne.mpr c14
          have c14b1 : (t146 != 2) = true := bne_iff_ne.mpr c14
          have H' := Aside0.mk H
          clear H
          go_wp2
          go_meet
          case rel => exact ⟨_, ((t146 == 4)), (by first | rfl | (simp; done) | (simp [*]; done)), H', ⟨by first | omega | exact Nat.le_refl _⟩, ⟨by (with_reducible repeat (first | refine blk_drewN ?_ _ | refine blk_drew ?_ | refine blk_alloc ?_ _)); exact BK144.out⟩, ⟨by (with_reducible repeat (first | refine blk_drewN ?_ _ | refine blk_drew ?_ | refine blk_alloc ?_ _)); exact BK145.out⟩, ⟨by repeat (first | (with_reducible first | exact HB.out | apply below_alloc | apply pw_below_drewN | apply below_drew1 | refine below_set ?_ GE144.out | refine below_set ?_ GE145.out) | exact HB.out)⟩⟩
    case rest =>
      clear HC10
      try clear c1
      try clear c2
      try clear p2
      try clear c5
      try clear c5b0
      try clear c5b1
      try clear p6
      try clear c8
      try clear c12
      try clear c13
      try clear c13b0
      try clear c13b1
      try clear c14
      try clear c14b0
      try clear c14b1
      try clear hcz9_0
      try clear hcz9_1
      try clear hcz9_2
      try clear hcz9_3
      try clear hfz9_0
      try clear hfz9_1
      try clear hfz9_2
      try clear hfz9_3
      obtain ⟨kq, x10_9, rfl, HA, HJ9, BK144, BK145, HB⟩ := hcut
      cases kq with
      | zero => exact absurd HA.out (by simp [whirligigref03_Do.j0])
      | succ kj9 =>
        have H := HA.out
        clear HA
        simp only [whirligigref03_Do.j0] at H
        replace H := Option.bind_eq_some_iff.mp H
        obtain ⟨t147, A150, H⟩ := H
        replace H : (if x10_9 = true then ((whirligigref01_Bit.f kj9 a1 7).bind fun t148 => (whirligigref03_Do.j1 kj9 a1 t146 x10_9 t148 a2_0 a2_1 a2_2 a2_3)) else (whirligigref03_Do.j1 kj9 a1 t146 x10_9 t147 a2_0 a2_1 a2_2 a2_3)) = some (r1, r2, r3, r4, r5) := H
        have A15 := Aside0.mk A150
        clear A150
        have HC16 := Aside0.mk H
        clear H
        go_upto_if 43 with (first | ((with_reducible refine gate_callee (f := 26) rfl ?_); refine goesL_ (some 42) rfl rfl Try.func26 (by kernel_rfl) rfl #[.int .u8 a1, .int .i64 0] rfl (by (try simp only [List.map_toArray, List.map_cons, List.map_nil]); first | done | rfl | (simp only [List.length_drop, List.length_take]; rfl)) ?_; (with_reducible refine (whirligigref01_Bit.calls kj9 a1 0 t147 _ A15.out).mono ?_); rintro e w' ⟨rfl, ⟨nd, rfl⟩⟩; refine ⟨_, rfl, ?_⟩))
        (try simp only [Act.put, List.setIfInBounds_toArray, List.set_cons_zero, List.set_cons_succ])
        go_cut [11] (fun v11 wc => ∃ (kq : Nat) (x11_15 : Bool), v11 = .bool x11_15 ∧ Aside0 (whirligigref03_Do.j1 kq a1 t146 x10_9 x11_15 a2_0 a2_1 a2_2 a2_3 = some (r1, r2, r3, r4, r5)) ∧ Aside0 (kq ≤ kj9) ∧ Aside0 (wc.heap[gb144]? = some (.cells #[.bool a2_0, .bool a2_1, .bool a2_2, .bool a2_3] 23 (0, 0))) ∧ Aside0 (wc.heap[gb145]? = some (.cells #[.bool false, .bool false, .bool false, .bool false] 23 (0, 0))) ∧ Aside0 (Below w.heap.size w wc))
        case first =>
          have H := HC16.out
          clear HC16
          by_cases c17 : x10_9 = true
          · subst c17
            have H1 : ((whirligigref01_Bit.f kj9 a1 7).bind fun t148 => (whirligigref03_Do.j1 kj9 a1 t146 true t148 a2_0 a2_1 a2_2 a2_3)) = some (r1, r2, r3, r4, r5) := by rw [if_pos rfl] at H; exact H
            clear H
            have H := H1
            clear H1
            replace H := Option.bind_eq_some_iff.mp H
            obtain ⟨t148, A180, H⟩ := H
            replace H : (whirligigref03_Do.j1 kj9 a1 t146 true t148 a2_0 a2_1 a2_2 a2_3) = some (r1, r2, r3, r4, r5) := H
            have A18 := Aside0.mk A180
            clear A180
            have H' := Aside0.mk H
            clear H
            go_wp2_with (first | ((with_reducible refine gate_callee (f := 26) rfl ?_); refine goesL_ (some 45) rfl rfl Try.func26 (by kernel_rfl) rfl #[.int .u8 a1, .int .i64 7] rfl (by (try simp only [List.map_toArray, List.map_cons, List.map_nil]); first | done | rfl | (simp only [List.length_drop, List.length_take]; rfl)) ?_; (with_reducible refine (whirligigref01_Bit.calls kj9 a1 7 t148 _ A18.out).mono ?_); rintro e w' ⟨rfl, ⟨nd, rfl⟩⟩; refine ⟨_, rfl, ?_⟩))
            go_meet
            case rel => exact ⟨_, (t148), (by first | rfl | (simp; done) | (simp [*]; done)), H', ⟨by have := HJ9.out; first | omega | exact Nat.le_refl _⟩, ⟨by (with_reducible repeat (first | refine blk_drewN ?_ _ | refine blk_drew ?_ | refine blk_alloc ?_ _)); exact BK144.out⟩, ⟨by (with_reducible repeat (first | refine blk_drewN ?_ _ | refine blk_drew ?_ | refine blk_alloc ?_ _)); exact BK145.out⟩, ⟨by repeat (first | (with_reducible first | exact HB.out | apply below_alloc | apply pw_below_drewN | apply below_drew1 | refine below_set ?_ GE144.out | refine below_set ?_ GE145.out) | exact HB.out)⟩⟩
          · replace c17 := Bool.eq_false_iff.mpr c17
            subst c17
            have H1 : (whirligigref03_Do.j1 kj9 a1 t146 false t147 a2_0 a2_1 a2_2 a2_3) = some (r1, r2, r3, r4, r5) := by rw [if_neg (show ¬ (false = true) by decide)] at H; exact H
            clear H
            have H := H1
            clear H1
            have H' := Aside0.mk H
            clear H
            go_wp2
            go_meet
            case rel => exact ⟨_, (t147), (by first | rfl | (simp; done) | (simp [*]; done)), H', ⟨by have := HJ9.out; first | omega | exact Nat.le_refl _⟩, ⟨by (with_reducible repeat (first | refine blk_drewN ?_ _ | refine blk_drew ?_ | refine blk_alloc ?_ _)); exact BK144.out⟩, ⟨by (with_reducible repeat (first | refine blk_drewN ?_ _ | refine blk_drew ?_ | refine blk_alloc ?_ _)); exact BK145.out⟩, ⟨by repeat (first | (with_reducible first | exact HB.out | apply below_alloc | apply pw_below_drewN | apply below_drew1 | refine below_set ?_ GE144.out | refine below_set ?_ GE145.out) | exact HB.out)⟩⟩
        case rest =>
          clear HC16
          try clear c1
          try clear c2
          try clear p2
          try clear c5
          try clear c5b0
          try clear c5b1
          try clear p6
          try clear c8
          try clear c12
          try clear c13
          try clear c13b0
          try clear c13b1
          try clear c14
          try clear c14b0
          try clear c14b1
          try clear c17
          try clear hcz9_0
          try clear hcz9_1
          try clear hcz9_2
          try clear hcz9_3
          try clear hfz9_0
          try clear hfz9_1
          try clear hfz9_2
          try clear hfz9_3
          try clear p2
          try clear p6
          obtain ⟨kq, x11_15, rfl, HA, HJ15, BK144, BK145, HB⟩ := hcut
          cases kq with
          | zero => exact absurd HA.out (by simp [whirligigref03_Do.j1])
          | succ kj15 =>
            have H := HA.out
            clear HA
            simp only [whirligigref03_Do.j1] at H
            have HC19 := Aside0.mk H
            clear H
            go_upto_if 47 with (fail)
            go_cut [47] (fun v47 wc => ∃ (kq : Nat) (x47_18 : Bool), v47 = .bool x47_18 ∧ Aside0 (whirligigref03_Do.j2 kq a1 x10_9 x11_15 false t146 x47_18 a2_0 a2_1 a2_2 a2_3 = some (r1, r2, r3, r4, r5)) ∧ Aside0 (kq ≤ kj15) ∧ Aside0 (wc.heap[gb144]? = some (.cells #[.bool a2_0, .bool a2_1, .bool a2_2, .bool a2_3] 23 (0, 0))) ∧ Aside0 (wc.heap[gb145]? = some (.cells #[.bool false, .bool false, .bool false, .bool false] 23 (0, 0))) ∧ Aside0 (Below w.heap.size w wc))
            case first =>
              have H := HC19.out
              clear HC19
              by_cases c20 : t146 = 0
              · rw [if_pos c20] at H
                have c20b0 : (t146 == 0) = true := beq_iff_eq.mpr c20
                have c20b1 : (t146 != 0) = false := bne_eq_false_iff_eq.mpr c20
                clear c20
                (first | rw [c20b0] | (simp only [i64_w, i32_w]; rw [c20b0]) | skip)
                have H' := Aside0.mk H
                clear H
                go_wp2
                go_meet
                case rel => exact ⟨_, ((t146 == 0)), (by first | rfl | (simp; done) | (simp [*]; done)), H', ⟨by have := HJ9.out; have := HJ15.out; first | omega | exact Nat.le_refl _⟩, ⟨by (with_reducible repeat (first | refine blk_drewN ?_ _ | refine blk_drew ?_ | refine blk_alloc ?_ _)); exact BK144.out⟩, ⟨by (with_reducible repeat (first | refine blk_drewN ?_ _ | refine blk_drew ?_ | refine blk_alloc ?_ _)); exact BK145.out⟩, ⟨by repeat (first | (with_reducible first | exact HB.out | apply below_alloc | apply pw_below_drewN | apply below_drew1 | refine below_set ?_ GE144.out | refine below_set ?_ GE145.out) | exact HB.out)⟩⟩
              · rw [if_neg c20] at H
                have c20b0 : (t146 == 0) = false := beq_eq_false_iff_ne.mpr c20
                have c20b1 : (t146 != 0) = true := bne_iff_ne.mpr c20
                (first | rw [c20b0] | (simp only [i64_w, i32_w]; rw [c20b0]) | skip)
                have H' := Aside0.mk H
                clear H
                go_wp2
                go_meet
                case rel => exact ⟨_, ((t146 == 1)), (by first | rfl | (simp; done) | (simp [*]; done)), H', ⟨by have := HJ9.out; have := HJ15.out; first | omega | exact Nat.le_refl _⟩, ⟨by (with_reducible repeat (first | refine blk_drewN ?_ _ | refine blk_drew ?_ | refine blk_alloc ?_ _)); exact BK144.out⟩, ⟨by (with_reducible repeat (first | refine blk_drewN ?_ _ | refine blk_drew ?_ | refine blk_alloc ?_ _)); exact BK145.out⟩, ⟨by repeat (first | (with_reducible first | exact HB.out | apply below_alloc | apply pw_below_drewN | apply below_drew1 | refine below_set ?_ GE144.out | refine below_set ?_ GE145.out) | exact HB.out)⟩⟩
            case rest =>
              clear HC19
              try clear c1
              try clear c2
              try clear p2
              try clear c5
              try clear c5b0
              try clear c5b1
              try clear p6
              try clear c8
              try clear c12
              try clear c13
              try clear c13b0
              try clear c13b1
              try clear c14
              try clear c14b0
              try clear c14b1
              try clear c17
              try clear c20
              try clear c20b0
              try clear c20b1
              try clear hcz9_0
              try clear hcz9_1
              try clear hcz9_2
              try clear hcz9_3
              try clear hfz9_0
              try clear hfz9_1
              try clear hfz9_2
              try clear hfz9_3
              try clear p2
              try clear p6
              obtain ⟨kq, x47_18, rfl, HA, HJ18, BK144, BK145, HB⟩ := hcut
              cases kq with
              | zero => exact absurd HA.out (by simp [whirligigref03_Do.j2])
              | succ kj18 =>
                have H := HA.out
                clear HA
                simp only [whirligigref03_Do.j2] at H
                by_cases c21 : x47_18 = true
                · subst c21
                  have H1 : ((whirligigref03_move.f kj18 a1 x10_9 x11_15).bind fun t149 => (some (t149, (t149 == 0), false, false, x11_15))) = some (r1, r2, r3, r4, r5) := by rw [if_pos rfl] at H; exact H
                  clear H
                  have H := H1
                  clear H1
                  replace H := Option.bind_eq_some_iff.mp H
                  obtain ⟨t149, A220, H⟩ := H
                  replace H : (some (t149, (t149 == 0), false, false, x11_15)) = some (r1, r2, r3, r4, r5) := H
                  have A22 := Aside0.mk A220
                  clear A220
                  simp only [Option.some.injEq, Prod.mk.injEq] at H
                  obtain ⟨rfl, rfl, rfl, rfl, rfl⟩ := H
                  go_wp2_with (first | ((with_reducible refine gate_callee (f := 27) rfl ?_); refine goesL_ (some 63) rfl rfl Try.func27 (by kernel_rfl) rfl #[.int .u8 a1, .bool x10_9, .bool x11_15] rfl (by (try simp only [List.map_toArray, List.map_cons, List.map_nil]); first | done | rfl | (simp only [List.length_drop, List.length_take]; rfl)) ?_; (with_reducible refine (whirligigref03_move.calls kj18 a1 x10_9 x11_15 t149 _ A22.out).mono ?_); rintro e w' ⟨rfl, ⟨nd, rfl⟩⟩; refine ⟨_, rfl, ?_⟩; (try (rw [drewN_self wc]; generalize hq_ : World.drewN wc _ = wc; have n0_ : Aside0 (wc.heap[gb144]? = some (.cells #[.bool a2_0, .bool a2_1, .bool a2_2, .bool a2_3] 23 (0, 0))) := ⟨by rw [← hq_]; exact (by (with_reducible repeat (first | refine blk_drewN ?_ _ | refine blk_drew ?_ | refine blk_alloc ?_ _)); exact BK144.out)⟩; have n1_ : Aside0 (wc.heap[gb145]? = some (.cells #[.bool false, .bool false, .bool false, .bool false] 23 (0, 0))) := ⟨by rw [← hq_]; exact (by (with_reducible repeat (first | refine blk_drewN ?_ _ | refine blk_drew ?_ | refine blk_alloc ?_ _)); exact BK145.out)⟩; have n2_ : Aside0 (Below w.heap.size w wc) := ⟨by rw [← hq_]; exact (by repeat (first | (with_reducible first | exact HB.out | apply below_alloc | apply pw_below_drewN | apply below_drew1 | refine below_set ?_ GE144.out | refine below_set ?_ GE145.out) | exact HB.out))⟩; clear BK144 BK145 HB hq_; have BK144 := n0_; have BK145 := n1_; have HB := n2_; clear n0_ n1_ n2_)); have hnb23 := NB145_144.out; have hnc23 := NB144_145.out; have hcz24_0 : wc.cell? ⟨gb145, 0, none⟩ = some (.bool false) := (blk_cell BK145.out 0).trans rfl; have hcz24_1 : wc.cell? ⟨gb145, 1, none⟩ = some (.bool false) := (blk_cell BK145.out 1).trans rfl; have hcz24_2 : wc.cell? ⟨gb145, 2, none⟩ = some (.bool false) := (blk_cell BK145.out 2).trans rfl; have hcz24_3 : wc.cell? ⟨gb145, 3, none⟩ = some (.bool false) := (blk_cell BK145.out 3).trans rfl; have hfz24_0 := blk_frozen BK145.out 0; have hfz24_1 := blk_frozen BK145.out 1; have hfz24_2 := blk_frozen BK145.out 2; have hfz24_3 := blk_frozen BK145.out 3))
                  refine bodyPost_ret (results_tc rfl _ _ gb145 23 #[.bool (t149 == 0), .bool false, .bool false, .bool x11_15] (0, 0) _ rfl (by (with_reducible repeat (first | refine blk_drewN ?_ _ | refine blk_drew ?_ | refine blk_alloc ?_ _)); refine blk_put (cs := #[.bool (t149 == 0), .bool false, .bool false, .bool false]) ?_ 3 _ rfl; (with_reducible repeat (first | refine blk_drewN ?_ _ | refine blk_drew ?_ | refine blk_alloc ?_ _)); refine blk_put (cs := #[.bool (t149 == 0), .bool false, .bool false, .bool false]) ?_ 2 _ rfl; (with_reducible repeat (first | refine blk_drewN ?_ _ | refine blk_drew ?_ | refine blk_alloc ?_ _)); refine blk_put (cs := #[.bool (t149 == 0), .bool false, .bool false, .bool false]) ?_ 1 _ rfl; (with_reducible repeat (first | refine blk_drewN ?_ _ | refine blk_drew ?_ | refine blk_alloc ?_ _)); refine blk_put (cs := #[.bool false, .bool false, .bool false, .bool false]) ?_ 0 _ rfl; (with_reducible repeat (first | refine blk_drewN ?_ _ | refine blk_drew ?_ | refine blk_alloc ?_ _)); exact BK145.out) Try.underlying23 rfl (by kernel_rfl)) rfl ?_
                  exact ⟨by first | rfl | (simp [errW_none, errW_some] <;> rfl) | (simp [*, errW_none, errW_some] <;> rfl), by repeat (first | (with_reducible first | exact HB.out | apply below_alloc | apply pw_below_drewN | apply below_drew1 | refine below_set ?_ GE144.out | refine below_set ?_ GE145.out) | exact HB.out)⟩
                · replace c21 := Bool.eq_false_iff.mpr c21
                  subst c21
                  have H1 : (if t146 = 2 then (whirligigref03_Do.j3 kj18 a1 x10_9 x11_15 false t146 (t146 == 2) a2_0 a2_1 a2_2 a2_3) else (whirligigref03_Do.j3 kj18 a1 x10_9 x11_15 false t146 (t146 == 3) a2_0 a2_1 a2_2 a2_3)) = some (r1, r2, r3, r4, r5) := by rw [if_neg (show ¬ (false = true) by decide)] at H; exact H
                  clear H
                  have H := H1
                  clear H1
                  have HC25 := Aside0.mk H
                  clear H
                  go_upto_if 51 with (fail)
                  go_cut [51] (fun v51 wc => ∃ (kq : Nat) (x51_24 : Bool), v51 = .bool x51_24 ∧ Aside0 (whirligigref03_Do.j3 kq a1 x10_9 x11_15 false t146 x51_24 a2_0 a2_1 a2_2 a2_3 = some (r1, r2, r3, r4, r5)) ∧ Aside0 (kq ≤ kj18) ∧ Aside0 (wc.heap[gb144]? = some (.cells #[.bool a2_0, .bool a2_1, .bool a2_2, .bool a2_3] 23 (0, 0))) ∧ Aside0 (wc.heap[gb145]? = some (.cells #[.bool false, .bool false, .bool false, .bool false] 23 (0, 0))) ∧ Aside0 (Below w.heap.size w wc))
                  case first =>
                    have H := HC25.out
                    clear HC25
                    by_cases c26 : t146 = 2
                    · rw [if_pos c26] at H
                      have c26b0 : (t146 == 2) = true := beq_iff_eq.mpr c26
                      have c26b1 : (t146 != 2) = false := bne_eq_false_iff_eq.mpr c26
                      clear c26
                      (first | rw [c26b0] | (simp only [i64_w, i32_w]; rw [c26b0]) | skip)
                      have H' := Aside0.mk H
                      clear H
                      go_wp2
                      go_meet
                      case rel => exact ⟨_, ((t146 == 2)), (by first | rfl | (simp; done) | (simp [*]; done)), H', ⟨by have := HJ9.out; have := HJ15.out; have := HJ18.out; first | omega | exact Nat.le_refl _⟩, ⟨by (with_reducible repeat (first | refine blk_drewN ?_ _ | refine blk_drew ?_ | refine blk_alloc ?_ _)); exact BK144.out⟩, ⟨by (with_reducible repeat (first | refine blk_drewN ?_ _ | refine blk_drew ?_ | refine blk_alloc ?_ _)); exact BK145.out⟩, ⟨by repeat (first | (with_reducible first | exact HB.out | apply below_alloc | apply pw_below_drewN | apply below_drew1 | refine below_set ?_ GE144.out | refine below_set ?_ GE145.out) | exact HB.out)⟩⟩
                    · rw [if_neg c26] at H
                      have c26b0 : (t146 == 2) = false := beq_eq_false_iff_ne.mpr c26
                      have c26b1 : (t146 != 2) = true := bne_iff_ne.mpr c26
                      (first | rw [c26b0] | (simp only [i64_w, i32_w]; rw [c26b0]) | skip)
                      have H' := Aside0.mk H
                      clear H
                      go_wp2
                      go_meet
                      case rel => exact ⟨_, ((t146 == 3)), (by first | rfl | (simp; done) | (simp [*]; done)), H', ⟨by have := HJ9.out; have := HJ15.out; have := HJ18.out; first | omega | exact Nat.le_refl _⟩, ⟨by (with_reducible repeat (first | refine blk_drewN ?_ _ | refine blk_drew ?_ | refine blk_alloc ?_ _)); exact BK144.out⟩, ⟨by (with_reducible repeat (first | refine blk_drewN ?_ _ | refine blk_drew ?_ | refine blk_alloc ?_ _)); exact BK145.out⟩, ⟨by repeat (first | (with_reducible first | exact HB.out | apply below_alloc | apply pw_below_drewN | apply below_drew1 | refine below_set ?_ GE144.out | refine below_set ?_ GE145.out) | exact HB.out)⟩⟩
                  case rest =>
                    clear HC25
                    try clear c1
                    try clear c2
                    try clear p2
                    try clear c5
                    try clear c5b0
                    try clear c5b1
                    try clear p6
                    try clear c8
                    try clear c12
                    try clear c13
                    try clear c13b0
                    try clear c13b1
                    try clear c14
                    try clear c14b0
                    try clear c14b1
                    try clear c17
                    try clear c20
                    try clear c20b0
                    try clear c20b1
                    try clear c21
                    try clear c23
                    try clear c25
                    try clear c26
                    try clear c26b0
                    try clear c26b1
                    try clear hcz24_0
                    try clear hcz24_1
                    try clear hcz24_2
                    try clear hcz24_3
                    try clear hcz9_0
                    try clear hcz9_1
                    try clear hcz9_2
                    try clear hcz9_3
                    try clear hfz24_0
                    try clear hfz24_1
                    try clear hfz24_2
                    try clear hfz24_3
                    try clear hfz9_0
                    try clear hfz9_1
                    try clear hfz9_2
                    try clear hfz9_3
                    try clear p2
                    try clear p6
                    obtain ⟨kq, x51_24, rfl, HA, HJ24, BK144, BK145, HB⟩ := hcut
                    cases kq with
                    | zero => exact absurd HA.out (by simp [whirligigref03_Do.j3])
                    | succ kj24 =>
                      have H := HA.out
                      clear HA
                      simp only [whirligigref03_Do.j3] at H
                      by_cases c27 : x51_24 = true
                      · subst c27
                        have H1 : ((whirligigref03_move.f kj24 a1 x10_9 a2_3).bind fun t150 => (some (t150, (t150 == 0), false, false, x11_15))) = some (r1, r2, r3, r4, r5) := by rw [if_pos rfl] at H; exact H
                        clear H
                        have H := H1
                        clear H1
                        replace H := Option.bind_eq_some_iff.mp H
                        obtain ⟨t150, A280, H⟩ := H
                        replace H : (some (t150, (t150 == 0), false, false, x11_15)) = some (r1, r2, r3, r4, r5) := H
                        have A28 := Aside0.mk A280
                        clear A280
                        simp only [Option.some.injEq, Prod.mk.injEq] at H
                        obtain ⟨rfl, rfl, rfl, rfl, rfl⟩ := H
                        have hnb29 := NB144_145.out
                        have hnc29 := NB145_144.out
                        have hcz30_0 : wc.cell? ⟨gb144, 0, none⟩ = some (.bool a2_0) := (blk_cell BK144.out 0).trans rfl
                        have hcz30_1 : wc.cell? ⟨gb144, 1, none⟩ = some (.bool a2_1) := (blk_cell BK144.out 1).trans rfl
                        have hcz30_2 : wc.cell? ⟨gb144, 2, none⟩ = some (.bool a2_2) := (blk_cell BK144.out 2).trans rfl
                        have hcz30_3 : wc.cell? ⟨gb144, 3, none⟩ = some (.bool a2_3) := (blk_cell BK144.out 3).trans rfl
                        have hfz30_0 := blk_frozen BK144.out 0
                        have hfz30_1 := blk_frozen BK144.out 1
                        have hfz30_2 := blk_frozen BK144.out 2
                        have hfz30_3 := blk_frozen BK144.out 3
                        go_wp2_with (first | ((with_reducible refine gate_callee (f := 27) rfl ?_); refine goesL_ (some 63) rfl rfl Try.func27 (by kernel_rfl) rfl #[.int .u8 a1, .bool x10_9, .bool a2_3] rfl (by (try simp only [List.map_toArray, List.map_cons, List.map_nil]); first | done | rfl | (simp only [List.length_drop, List.length_take]; rfl)) ?_; (with_reducible refine (whirligigref03_move.calls kj24 a1 x10_9 a2_3 t150 _ A28.out).mono ?_); rintro e w' ⟨rfl, ⟨nd, rfl⟩⟩; refine ⟨_, rfl, ?_⟩; (try (rw [drewN_self wc]; generalize hq_ : World.drewN wc _ = wc; have n0_ : Aside0 (wc.heap[gb144]? = some (.cells #[.bool a2_0, .bool a2_1, .bool a2_2, .bool a2_3] 23 (0, 0))) := ⟨by rw [← hq_]; exact (by (with_reducible repeat (first | refine blk_drewN ?_ _ | refine blk_drew ?_ | refine blk_alloc ?_ _)); exact BK144.out)⟩; have n1_ : Aside0 (wc.heap[gb145]? = some (.cells #[.bool false, .bool false, .bool false, .bool false] 23 (0, 0))) := ⟨by rw [← hq_]; exact (by (with_reducible repeat (first | refine blk_drewN ?_ _ | refine blk_drew ?_ | refine blk_alloc ?_ _)); exact BK145.out)⟩; have n2_ : Aside0 (Below w.heap.size w wc) := ⟨by rw [← hq_]; exact (by repeat (first | (with_reducible first | exact HB.out | apply below_alloc | apply pw_below_drewN | apply below_drew1 | refine below_set ?_ GE144.out | refine below_set ?_ GE145.out) | exact HB.out))⟩; clear BK144 BK145 HB hq_; have BK144 := n0_; have BK145 := n1_; have HB := n2_; clear n0_ n1_ n2_)); have hcz31_0 : wc.cell? ⟨gb145, 0, none⟩ = some (.bool false) := (blk_cell BK145.out 0).trans rfl; have hcz31_1 : wc.cell? ⟨gb145, 1, none⟩ = some (.bool false) := (blk_cell BK145.out 1).trans rfl; have hcz31_2 : wc.cell? ⟨gb145, 2, none⟩ = some (.bool false) := (blk_cell BK145.out 2).trans rfl; have hcz31_3 : wc.cell? ⟨gb145, 3, none⟩ = some (.bool false) := (blk_cell BK145.out 3).trans rfl; have hfz31_0 := blk_frozen BK145.out 0; have hfz31_1 := blk_frozen BK145.out 1; have hfz31_2 := blk_frozen BK145.out 2; have hfz31_3 := blk_frozen BK145.out 3))
                        refine bodyPost_ret (results_tc rfl _ _ gb145 23 #[.bool (t150 == 0), .bool false, .bool false, .bool x11_15] (0, 0) _ rfl (by (with_reducible repeat (first | refine blk_drewN ?_ _ | refine blk_drew ?_ | refine blk_alloc ?_ _)); refine blk_put (cs := #[.bool (t150 == 0), .bool false, .bool false, .bool false]) ?_ 3 _ rfl; (with_reducible repeat (first | refine blk_drewN ?_ _ | refine blk_drew ?_ | refine blk_alloc ?_ _)); refine blk_put (cs := #[.bool (t150 == 0), .bool false, .bool false, .bool false]) ?_ 2 _ rfl; (with_reducible repeat (first | refine blk_drewN ?_ _ | refine blk_drew ?_ | refine blk_alloc ?_ _)); refine blk_put (cs := #[.bool (t150 == 0), .bool false, .bool false, .bool false]) ?_ 1 _ rfl; (with_reducible repeat (first | refine blk_drewN ?_ _ | refine blk_drew ?_ | refine blk_alloc ?_ _)); refine blk_put (cs := #[.bool false, .bool false, .bool false, .bool false]) ?_ 0 _ rfl; (with_reducible repeat (first | refine blk_drewN ?_ _ | refine blk_drew ?_ | refine blk_alloc ?_ _)); exact BK145.out) Try.underlying23 rfl (by kernel_rfl)) rfl ?_
                        exact ⟨by first | rfl | (simp [errW_none, errW_some] <;> rfl) | (simp [*, errW_none, errW_some] <;> rfl), by repeat (first | (with_reducible first | exact HB.out | apply below_alloc | apply pw_below_drewN | apply below_drew1 | refine below_set ?_ GE144.out | refine below_set ?_ GE145.out) | exact HB.out)⟩
                      · replace c27 := Bool.eq_false_iff.mpr c27
                        subst c27
                        have H1 : (if t146 = 5 then ((whirligigref01_Bit.f kj24 a1 7).bind fun t151 => ((whirligigref03_move.f kj24 a1 x10_9 t151).bind fun t152 => (some (t152, (t152 == 0), false, false, x11_15)))) else ((whirligigref03_move.f kj24 a1 x10_9 false).bind fun t153 => (some (t153, (t153 == 0), false, false, x11_15)))) = some (r1, r2, r3, r4, r5) := by rw [if_neg (show ¬ (false = true) by decide)] at H; exact H
                        clear H
                        have H := H1
                        clear H1
                        by_cases c32 : t146 = 5
                        · rw [if_pos c32] at H
                          have c32b0 : (t146 == 5) = true := beq_iff_eq.mpr c32
                          have c32b1 : (t146 != 5) = false := bne_eq_false_iff_eq.mpr c32
                          clear c32
                          replace H := Option.bind_eq_some_iff.mp H
                          obtain ⟨t151, A330, H⟩ := H
                          replace H : ((whirligigref03_move.f kj24 a1 x10_9 t151).bind fun t152 => (some (t152, (t152 == 0), false, false, x11_15))) = some (r1, r2, r3, r4, r5) := H
                          have A33 := Aside0.mk A330
                          clear A330
                          replace H := Option.bind_eq_some_iff.mp H
                          obtain ⟨t152, A340, H⟩ := H
                          replace H : (some (t152, (t152 == 0), false, false, x11_15)) = some (r1, r2, r3, r4, r5) := H
                          have A34 := Aside0.mk A340
                          clear A340
                          simp only [Option.some.injEq, Prod.mk.injEq] at H
                          obtain ⟨rfl, rfl, rfl, rfl, rfl⟩ := H
                          go_wp2_with (first | ((with_reducible refine gate_callee (f := 26) rfl ?_); refine goesL_ (some 59) rfl rfl Try.func26 (by kernel_rfl) rfl #[.int .u8 a1, .int .i64 7] rfl (by (try simp only [List.map_toArray, List.map_cons, List.map_nil]); first | done | rfl | (simp only [List.length_drop, List.length_take]; rfl)) ?_; (with_reducible refine (whirligigref01_Bit.calls kj24 a1 7 t151 _ A33.out).mono ?_); rintro e w' ⟨rfl, ⟨nd, rfl⟩⟩; refine ⟨_, rfl, ?_⟩; (try (rw [drewN_self wc]; generalize hq_ : World.drewN wc _ = wc; have n0_ : Aside0 (wc.heap[gb144]? = some (.cells #[.bool a2_0, .bool a2_1, .bool a2_2, .bool a2_3] 23 (0, 0))) := ⟨by rw [← hq_]; exact (by (with_reducible repeat (first | refine blk_drewN ?_ _ | refine blk_drew ?_ | refine blk_alloc ?_ _)); exact BK144.out)⟩; have n1_ : Aside0 (wc.heap[gb145]? = some (.cells #[.bool false, .bool false, .bool false, .bool false] 23 (0, 0))) := ⟨by rw [← hq_]; exact (by (with_reducible repeat (first | refine blk_drewN ?_ _ | refine blk_drew ?_ | refine blk_alloc ?_ _)); exact BK145.out)⟩; have n2_ : Aside0 (Below w.heap.size w wc) := ⟨by rw [← hq_]; exact (by repeat (first | (with_reducible first | exact HB.out | apply below_alloc | apply pw_below_drewN | apply below_drew1 | refine below_set ?_ GE144.out | refine below_set ?_ GE145.out) | exact HB.out))⟩; clear BK144 BK145 HB hq_; have BK144 := n0_; have BK145 := n1_; have HB := n2_; clear n0_ n1_ n2_))) | ((with_reducible refine gate_callee (f := 27) rfl ?_); refine goesL_ (some 63) rfl rfl Try.func27 (by kernel_rfl) rfl #[.int .u8 a1, .bool x10_9, .bool t151] rfl (by (try simp only [List.map_toArray, List.map_cons, List.map_nil]); first | done | rfl | (simp only [List.length_drop, List.length_take]; rfl)) ?_; (with_reducible refine (whirligigref03_move.calls kj24 a1 x10_9 t151 t152 _ A34.out).mono ?_); rintro e w' ⟨rfl, ⟨nd, rfl⟩⟩; refine ⟨_, rfl, ?_⟩; (try (rw [drewN_self wc]; generalize hq_ : World.drewN wc _ = wc; have n0_ : Aside0 (wc.heap[gb144]? = some (.cells #[.bool a2_0, .bool a2_1, .bool a2_2, .bool a2_3] 23 (0, 0))) := ⟨by rw [← hq_]; exact (by (with_reducible repeat (first | refine blk_drewN ?_ _ | refine blk_drew ?_ | refine blk_alloc ?_ _)); exact BK144.out)⟩; have n1_ : Aside0 (wc.heap[gb145]? = some (.cells #[.bool false, .bool false, .bool false, .bool false] 23 (0, 0))) := ⟨by rw [← hq_]; exact (by (with_reducible repeat (first | refine blk_drewN ?_ _ | refine blk_drew ?_ | refine blk_alloc ?_ _)); exact BK145.out)⟩; have n2_ : Aside0 (Below w.heap.size w wc) := ⟨by rw [← hq_]; exact (by repeat (first | (with_reducible first | exact HB.out | apply below_alloc | apply pw_below_drewN | apply below_drew1 | refine below_set ?_ GE144.out | refine below_set ?_ GE145.out) | exact HB.out))⟩; clear BK144 BK145 HB hq_; have BK144 := n0_; have BK145 := n1_; have HB := n2_; clear n0_ n1_ n2_)); have hnb35 := NB145_144.out; have hnc35 := NB144_145.out; have hcz36_0 : wc.cell? ⟨gb145, 0, none⟩ = some (.bool false) := (blk_cell BK145.out 0).trans rfl; have hcz36_1 : wc.cell? ⟨gb145, 1, none⟩ = some (.bool false) := (blk_cell BK145.out 1).trans rfl; have hcz36_2 : wc.cell? ⟨gb145, 2, none⟩ = some (.bool false) := (blk_cell BK145.out 2).trans rfl; have hcz36_3 : wc.cell? ⟨gb145, 3, none⟩ = some (.bool false) := (blk_cell BK145.out 3).trans rfl; have hfz36_0 := blk_frozen BK145.out 0; have hfz36_1 := blk_frozen BK145.out 1; have hfz36_2 := blk_frozen BK145.out 2; have hfz36_3 := blk_frozen BK145.out 3))
                          refine bodyPost_ret (results_tc rfl _ _ gb145 23 #[.bool (t152 == 0), .bool false, .bool false, .bool x11_15] (0, 0) _ rfl (by (with_reducible repeat (first | refine blk_drewN ?_ _ | refine blk_drew ?_ | refine blk_alloc ?_ _)); refine blk_put (cs := #[.bool (t152 == 0), .bool false, .bool false, .bool false]) ?_ 3 _ rfl; (with_reducible repeat (first | refine blk_drewN ?_ _ | refine blk_drew ?_ | refine blk_alloc ?_ _)); refine blk_put (cs := #[.bool (t152 == 0), .bool false, .bool false, .bool false]) ?_ 2 _ rfl; (with_reducible repeat (first | refine blk_drewN ?_ _ | refine blk_drew ?_ | refine blk_alloc ?_ _)); refine blk_put (cs := #[.bool (t152 == 0), .bool false, .bool false, .bool false]) ?_ 1 _ rfl; (with_reducible repeat (first | refine blk_drewN ?_ _ | refine blk_drew ?_ | refine blk_alloc ?_ _)); refine blk_put (cs := #[.bool false, .bool false, .bool false, .bool false]) ?_ 0 _ rfl; (with_reducible repeat (first | refine blk_drewN ?_ _ | refine blk_drew ?_ | refine blk_alloc ?_ _)); exact BK145.out) Try.underlying23 rfl (by kernel_rfl)) rfl ?_
                          exact ⟨by first | rfl | (simp [errW_none, errW_some] <;> rfl) | (simp [*, errW_none, errW_some] <;> rfl), by repeat (first | (with_reducible first | exact HB.out | apply below_alloc | apply pw_below_drewN | apply below_drew1 | refine below_set ?_ GE144.out | refine below_set ?_ GE145.out) | exact HB.out)⟩
                        · rw [if_neg c32] at H
                          have c32b0 : (t146 == 5) = false := beq_eq_false_iff_ne.mpr c32
                          have c32b1 : (t146 != 5) = true := bne_iff_ne.mpr c32
                          replace H := Option.bind_eq_some_iff.mp H
                          obtain ⟨t153, A370, H⟩ := H
                          replace H : (some (t153, (t153 == 0), false, false, x11_15)) = some (r1, r2, r3, r4, r5) := H
                          have A37 := Aside0.mk A370
                          clear A370
                          simp only [Option.some.injEq, Prod.mk.injEq] at H
                          obtain ⟨rfl, rfl, rfl, rfl, rfl⟩ := H
                          go_wp2_with (first | ((with_reducible refine gate_callee (f := 27) rfl ?_); refine goesL_ (some 63) rfl rfl Try.func27 (by kernel_rfl) rfl #[.int .u8 a1, .bool x10_9, .bool false] rfl (by (try simp only [List.map_toArray, List.map_cons, List.map_nil]); first | done | rfl | (simp only [List.length_drop, List.length_take]; rfl)) ?_; (with_reducible refine (whirligigref03_move.calls kj24 a1 x10_9 false t153 _ A37.out).mono ?_); rintro e w' ⟨rfl, ⟨nd, rfl⟩⟩; refine ⟨_, rfl, ?_⟩; (try (rw [drewN_self wc]; generalize hq_ : World.drewN wc _ = wc; have n0_ : Aside0 (wc.heap[gb144]? = some (.cells #[.bool a2_0, .bool a2_1, .bool a2_2, .bool a2_3] 23 (0, 0))) := ⟨by rw [← hq_]; exact (by (with_reducible repeat (first | refine blk_drewN ?_ _ | refine blk_drew ?_ | refine blk_alloc ?_ _)); exact BK144.out)⟩; have n1_ : Aside0 (wc.heap[gb145]? = some (.cells #[.bool false, .bool false, .bool false, .bool false] 23 (0, 0))) := ⟨by rw [← hq_]; exact (by (with_reducible repeat (first | refine blk_drewN ?_ _ | refine blk_drew ?_ | refine blk_alloc ?_ _)); exact BK145.out)⟩; have n2_ : Aside0 (Below w.heap.size w wc) := ⟨by rw [← hq_]; exact (by repeat (first | (with_reducible first | exact HB.out | apply below_alloc | apply pw_below_drewN | apply below_drew1 | refine below_set ?_ GE144.out | refine below_set ?_ GE145.out) | exact HB.out))⟩; clear BK144 BK145 HB hq_; have BK144 := n0_; have BK145 := n1_; have HB := n2_; clear n0_ n1_ n2_)); have hnb38 := NB145_144.out; have hnc38 := NB144_145.out; have hcz39_0 : wc.cell? ⟨gb145, 0, none⟩ = some (.bool false) := (blk_cell BK145.out 0).trans rfl; have hcz39_1 : wc.cell? ⟨gb145, 1, none⟩ = some (.bool false) := (blk_cell BK145.out 1).trans rfl; have hcz39_2 : wc.cell? ⟨gb145, 2, none⟩ = some (.bool false) := (blk_cell BK145.out 2).trans rfl; have hcz39_3 : wc.cell? ⟨gb145, 3, none⟩ = some (.bool false) := (blk_cell BK145.out 3).trans rfl; have hfz39_0 := blk_frozen BK145.out 0; have hfz39_1 := blk_frozen BK145.out 1; have hfz39_2 := blk_frozen BK145.out 2; have hfz39_3 := blk_frozen BK145.out 3))
                          refine bodyPost_ret (results_tc rfl _ _ gb145 23 #[.bool (t153 == 0), .bool false, .bool false, .bool x11_15] (0, 0) _ rfl (by (with_reducible repeat (first | refine blk_drewN ?_ _ | refine blk_drew ?_ | refine blk_alloc ?_ _)); refine blk_put (cs := #[.bool (t153 == 0), .bool false, .bool false, .bool false]) ?_ 3 _ rfl; (with_reducible repeat (first | refine blk_drewN ?_ _ | refine blk_drew ?_ | refine blk_alloc ?_ _)); refine blk_put (cs := #[.bool (t153 == 0), .bool false, .bool false, .bool false]) ?_ 2 _ rfl; (with_reducible repeat (first | refine blk_drewN ?_ _ | refine blk_drew ?_ | refine blk_alloc ?_ _)); refine blk_put (cs := #[.bool (t153 == 0), .bool false, .bool false, .bool false]) ?_ 1 _ rfl; (with_reducible repeat (first | refine blk_drewN ?_ _ | refine blk_drew ?_ | refine blk_alloc ?_ _)); refine blk_put (cs := #[.bool false, .bool false, .bool false, .bool false]) ?_ 0 _ rfl; (with_reducible repeat (first | refine blk_drewN ?_ _ | refine blk_drew ?_ | refine blk_alloc ?_ _)); exact BK145.out) Try.underlying23 rfl (by kernel_rfl)) rfl ?_
                          exact ⟨by first | rfl | (simp [errW_none, errW_some] <;> rfl) | (simp [*, errW_none, errW_some] <;> rfl), by repeat (first | (with_reducible first | exact HB.out | apply below_alloc | apply pw_below_drewN | apply below_drew1 | refine below_set ?_ GE144.out | refine below_set ?_ GE145.out) | exact HB.out)⟩

end Go.Proofs.Ytmhoekdobodfeaa.G
