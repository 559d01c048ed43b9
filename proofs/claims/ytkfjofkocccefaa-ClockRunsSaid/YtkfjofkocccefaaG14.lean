/- Written by a program of this session, after the kit's print: Go functions as Lean functions, each with the proof that the Go text comes to it. -/
import Derived.Test.YtkfjofkocccefaaG0
import Derived.Test.YtkfjofkocccefaaG6
import Derived.Test.YtkfjofkocccefaaG8
namespace Go.Proofs.Ytkfjofkocccefaa.G
open Go.RowKit Go.Proofs.YtkfjofkocccefaaW.PrintWords Go.Proofs.YtkfjofkocccefaaW.PrintLast Go.Proofs.YtkfjofkocccefaaW.PrintMore
attribute [local go_sem] max2_int min2_int max_two min_two max_three min_three max_four min_four   -- for this text's walks alone
set_option linter.unusedVariables false
set_option linter.unusedSimpArgs false

/-! ### whirligigref09_Run: function 22 -/
mutual
def whirligigref09_Run.j0 : Nat → Int → Bool → Int → Int → Int → Int → Bool → Bool → Option (Int × Int × Int × Int × Bool × Bool × Int)
  | 0, _, _, _, _, _, _, _, _ => none
  | k + 1, x1, x12, x207000, x207001, x207002, x207003, x207004, x207005 => if x12 = true then (some (0, 0, 0, 0, false, false, 1)) else ((whirligigref09_Norm.f x207000 x207001 x207002 x207003 x207004 x207005).bind fun bt208 => (whirligigref09_Run.l0 k x1 0 bt208.1 bt208.2.1 bt208.2.2.1 bt208.2.2.2.1 bt208.2.2.2.2.1 bt208.2.2.2.2.2))
def whirligigref09_Run.l0 : Nat → Int → Int → Int → Int → Int → Int → Bool → Bool → Option (Int × Int × Int × Int × Bool × Bool × Int)
  | 0, _, _, _, _, _, _, _, _ => none
  | k + 1, x1, x6, x207000, x207001, x207002, x207003, x207004, x207005 => if x6 < x1 then ((whirligigref09_Tick.f k x207000 x207001 x207002 x207003 x207004 x207005).bind fun bt214 => (whirligigref09_Run.l0 k x1 (wrap64 (x6 + 1)) bt214.1 bt214.2.1 bt214.2.2.1 bt214.2.2.2.1 bt214.2.2.2.2.1 bt214.2.2.2.2.2)) else (some (x207000, x207001, x207002, x207003, x207004, x207005, 0))
end
def whirligigref09_Run.f (k : Nat) (a0_0 : Int) (a0_1 : Int) (a0_2 : Int) (a0_3 : Int) (a0_4 : Bool) (a0_5 : Bool) (a1 : Int) : Option (Int × Int × Int × Int × Bool × Bool × Int) := if a1 < 0 then (whirligigref09_Run.j0 k a1 true a0_0 a0_1 a0_2 a0_3 a0_4 a0_5) else (whirligigref09_Run.j0 k a1 (decide (a1 > 100000)) a0_0 a0_1 a0_2 a0_3 a0_4 a0_5)
theorem whirligigref09_Run.mono_l : ∀ k, (∀ y0 y1 y2 y3 y4 y5 y6 y7, LeO (whirligigref09_Run.j0 k y0 y1 y2 y3 y4 y5 y6 y7) (whirligigref09_Run.j0 (k + 1) y0 y1 y2 y3 y4 y5 y6 y7)) ∧ (∀ y0 y1 y2 y3 y4 y5 y6 y7, LeO (whirligigref09_Run.l0 k y0 y1 y2 y3 y4 y5 y6 y7) (whirligigref09_Run.l0 (k + 1) y0 y1 y2 y3 y4 y5 y6 y7))
  | 0 => ⟨fun _ _ _ _ _ _ _ _ r h => by simp [whirligigref09_Run.j0] at h, fun _ _ _ _ _ _ _ _ r h => by simp [whirligigref09_Run.l0] at h⟩
  | k + 1 => by
    obtain ⟨ih0, ih1⟩ := whirligigref09_Run.mono_l k
    refine ⟨?_, ?_⟩
    · intro y0 y1 y2 y3 y4 y5 y6 y7
      unfold whirligigref09_Run.j0
      repeat' first
      | (with_reducible exact ih0 _ _ _ _ _ _ _ _)
      | (with_reducible exact ih1 _ _ _ _ _ _ _ _)
      | (with_reducible exact whirligigref09_Tick.mono _ _ _ _ _ _ _)
      | (with_reducible exact LeO.refl _)
      | (with_reducible exact LeO.none _)
      | (with_reducible refine LeO.ite ?_ ?_)
      | (with_reducible refine LeO.bind ?_ (fun _ => ?_))
      | exact ih0 _ _ _ _ _ _ _ _
      | exact ih1 _ _ _ _ _ _ _ _
      | exact whirligigref09_Tick.mono _ _ _ _ _ _ _
      | exact LeO.none _
      | refine LeO.ite ?_ ?_
      | refine LeO.bind ?_ (fun _ => ?_)
    · intro y0 y1 y2 y3 y4 y5 y6 y7
      unfold whirligigref09_Run.l0
      repeat' first
      | (with_reducible exact ih0 _ _ _ _ _ _ _ _)
      | (with_reducible exact ih1 _ _ _ _ _ _ _ _)
      | (with_reducible exact whirligigref09_Tick.mono _ _ _ _ _ _ _)
      | (with_reducible exact LeO.refl _)
      | (with_reducible exact LeO.none _)
      | (with_reducible refine LeO.ite ?_ ?_)
      | (with_reducible refine LeO.bind ?_ (fun _ => ?_))
      | exact ih0 _ _ _ _ _ _ _ _
      | exact ih1 _ _ _ _ _ _ _ _
      | exact whirligigref09_Tick.mono _ _ _ _ _ _ _
      | exact LeO.none _
      | refine LeO.ite ?_ ?_
      | refine LeO.bind ?_ (fun _ => ?_)
theorem whirligigref09_Run.mono : ∀ a0 a1 a2 a3 a4 a5 a6 k, LeO (whirligigref09_Run.f k a0 a1 a2 a3 a4 a5 a6) (whirligigref09_Run.f (k + 1) a0 a1 a2 a3 a4 a5 a6) := by
  intro a0 a1 a2 a3 a4 a5 a6 k
  obtain ⟨ih0, ih1⟩ := whirligigref09_Run.mono_l k
  unfold whirligigref09_Run.f
  repeat' first
      | (with_reducible exact ih0 _ _ _ _ _ _ _ _)
      | (with_reducible exact ih1 _ _ _ _ _ _ _ _)
      | (with_reducible exact whirligigref09_Tick.mono _ _ _ _ _ _ _)
      | (with_reducible exact LeO.refl _)
      | (with_reducible exact LeO.none _)
      | (with_reducible refine LeO.ite ?_ ?_)
      | (with_reducible refine LeO.bind ?_ (fun _ => ?_))
      | exact ih0 _ _ _ _ _ _ _ _
      | exact ih1 _ _ _ _ _ _ _ _
      | exact whirligigref09_Tick.mono _ _ _ _ _ _ _
      | exact LeO.none _
      | refine LeO.ite ?_ ?_
      | refine LeO.bind ?_ (fun _ => ?_)
set_option maxHeartbeats 8000000 in
set_option maxRecDepth 100000 in
theorem whirligigref09_Run.calls (k : Nat) (a0_0 : Int) (a0_1 : Int) (a0_2 : Int) (a0_3 : Int) (a0_4 : Bool) (a0_5 : Bool) (a1 : Int) (r1 : Int) (r2 : Int) (r3 : Int) (r4 : Int) (r5 : Bool) (r6 : Bool) (r7 : Int) (w : World) (h : whirligigref09_Run.f k a0_0 a0_1 a0_2 a0_3 a0_4 a0_5 a1 = some (r1, r2, r3, r4, r5, r6, r7)) :
    Calls Try.prog 22 #[.agg #[.int .u8 a0_0, .int .u8 a0_1, .int .u8 a0_2, .int .u16 a0_3, .bool a0_4, .bool a0_5], .int .i64 a1] w fun e w' => e = .returned (.tuple #[.agg #[.int .u8 r1, .int .u8 r2, .int .u8 r3, .int .u16 r4, .bool r5, .bool r6], .int .i64 r7]) ∧ Below w.heap.size w w' := by
  have hu24 := Try.underlying24
  have HB := Aside0.mk (Below.refl w.heap.size w)
  have H : (if a1 < 0 then (whirligigref09_Run.j0 k a1 true a0_0 a0_1 a0_2 a0_3 a0_4 a0_5) else (whirligigref09_Run.j0 k a1 (decide (a1 > 100000)) a0_0 a0_1 a0_2 a0_3 a0_4 a0_5)) = some (r1, r2, r3, r4, r5, r6, r7) := h
  clear h
  have HC3 := Aside0.mk H
  clear H
  go_enter Try.func22, Try.ntmps22
  go_upto_region 1 with (first | ((with_reducible refine gate_dst (N := 2) rfl ?_); refine box_event ?hg (N := 2) ?hd (cs := #[.int .u8 a0_0, .int .u8 a0_1, .int .u8 a0_2, .int .u16 a0_3, .bool a0_4, .bool a0_5]) (t := 24) ?hr ?_; (case hd => rfl); (case hg => rfl); (case hr => first | (go_simp; done) | (go_simp; rfl)); intro gb206 hg w4 hbox hb; have n0_ := Aside0.mk (below_step (by repeat (first | (with_reducible first | exact HB.out | apply below_alloc | apply pw_below_drewN | apply below_drew1) | exact HB.out)) hb); have n1_ := Aside0.mk (hbox); have n2_ := Aside0.mk ((by rw [hg]; exact (below_size (by repeat (first | (with_reducible first | exact HB.out | apply below_alloc | apply pw_below_drewN | apply below_drew1) | exact HB.out))) : w.heap.size ≤ gb206)); have n3_ := Aside0.mk ((by rw [hg]; exact (below_size (by repeat (first | (with_reducible first | exact HB.out | apply below_alloc | apply pw_below_drewN | apply below_drew1) | exact HB.out))) : w.heap.size ≤ gb206)); clear HB; have HB := n0_; have BK206 := n1_; have GW206 := n2_; have GE206 := n3_; clear n0_ n1_ n2_ n3_; clear hb hbox hg) | ((with_reducible refine gate_dst (N := 4) rfl ?_); refine box_event ?hg (N := 4) ?hd (cs := #[.int .u8 0, .int .u8 0, .int .u8 0, .int .u16 0, .bool false, .bool false]) (t := 24) ?hr ?_; (case hd => rfl); (case hg => rfl); (case hr => first | (go_simp; done) | (go_simp; rfl)); intro gb207 hg w5 hbox hb; have n0_ := Aside0.mk (blk_below (g := gb206) (o := .cells #[.int .u8 a0_0, .int .u8 a0_1, .int .u8 a0_2, .int .u16 a0_3, .bool a0_4, .bool a0_5] 24 (0, 0)) (by (with_reducible repeat (first | refine blk_drewN ?_ _ | refine blk_drew ?_ | refine blk_alloc ?_ _)); exact BK206.out) hb); have n1_ := Aside0.mk (below_step (by repeat (first | (with_reducible first | exact HB.out | apply below_alloc | apply pw_below_drewN | apply below_drew1 | refine below_set ?_ GE206.out) | exact HB.out)) hb); have n2_ := Aside0.mk (hbox); have n3_ := Aside0.mk ((by rw [hg]; exact (below_size (by repeat (first | (with_reducible first | exact HB.out | apply below_alloc | apply pw_below_drewN | apply below_drew1 | refine below_set ?_ GE206.out) | exact HB.out))) : w.heap.size ≤ gb207)); have n4_ := Aside0.mk ((by rw [hg]; exact (below_size (by repeat (first | (with_reducible first | exact HB.out | apply below_alloc | apply pw_below_drewN | apply below_drew1 | refine below_set ?_ GE206.out) | exact HB.out))) : w.heap.size ≤ gb207)); have n5_ := Aside0.mk ((by rw [hg]; exact Nat.ne_of_lt (blk_lt (g := gb206) (o := .cells #[.int .u8 a0_0, .int .u8 a0_1, .int .u8 a0_2, .int .u16 a0_3, .bool a0_4, .bool a0_5] 24 (0, 0)) (by (with_reducible repeat (first | refine blk_drewN ?_ _ | refine blk_drew ?_ | refine blk_alloc ?_ _)); exact BK206.out)) : gb206 ≠ gb207)); have n6_ := Aside0.mk ((by rw [hg]; exact Nat.ne_of_gt (blk_lt (g := gb206) (o := .cells #[.int .u8 a0_0, .int .u8 a0_1, .int .u8 a0_2, .int .u16 a0_3, .bool a0_4, .bool a0_5] 24 (0, 0)) (by (with_reducible repeat (first | refine blk_drewN ?_ _ | refine blk_drew ?_ | refine blk_alloc ?_ _)); exact BK206.out)) : gb207 ≠ gb206)); clear BK206; clear HB; have BK206 := n0_; have HB := n1_; have BK207 := n2_; have GW207 := n3_; have GE207 := n4_; have NB206_207 := n5_; have NB207_206 := n6_; clear n0_ n1_ n2_ n3_ n4_ n5_ n6_; clear hb hbox hg))
  (try simp only [Act.put, List.setIfInBounds_toArray, List.set_cons_zero, List.set_cons_succ])
  go_cut [12] (fun v12 wc => ∃ (kq : Nat) (x12_2 : Bool), v12 = .bool x12_2 ∧ Aside0 (whirligigref09_Run.j0 kq a1 x12_2 a0_0 a0_1 a0_2 a0_3 a0_4 a0_5 = some (r1, r2, r3, r4, r5, r6, r7)) ∧ Aside0 (kq ≤ k) ∧ Aside0 (wc.heap[gb206]? = some (.cells #[.int .u8 a0_0, .int .u8 a0_1, .int .u8 a0_2, .int .u16 a0_3, .bool a0_4, .bool a0_5] 24 (0, 0))) ∧ Aside0 (wc.heap[gb207]? = some (.cells #[.int .u8 0, .int .u8 0, .int .u8 0, .int .u16 0, .bool false, .bool false] 24 (0, 0))) ∧ Aside0 (Below w.heap.size w wc))
  case first =>
    have H := HC3.out
    clear HC3
    by_cases c6 : a1 < 0
    · rw [if_pos c6] at H
      have c6b0 : decide (a1 < 0) = true := decide_eq_true c6
      clear c6
      (first | rw [c6b0] | (simp only [i64_w, i32_w]; rw [c6b0]) | skip)
      have H' := Aside0.mk H
      clear H
      go_wp2
      go_meet
      case rel => exact ⟨_, (true), (by first | rfl | (simp; done) | (simp [*]; done)), H', ⟨by first | omega | exact Nat.le_refl _⟩, ⟨by (with_reducible repeat (first | refine blk_drewN ?_ _ | refine blk_drew ?_ | refine blk_alloc ?_ _)); exact BK206.out⟩, ⟨by (with_reducible repeat (first | refine blk_drewN ?_ _ | refine blk_drew ?_ | refine blk_alloc ?_ _)); exact BK207.out⟩, ⟨by repeat (first | (with_reducible first | exact HB.out | apply below_alloc | apply pw_below_drewN | apply below_drew1 | refine below_set ?_ GE206.out | refine below_set ?_ GE207.out) | exact HB.out)⟩⟩
    · rw [if_neg c6] at H
      have c6b0 : decide (a1 < 0) = false := decide_eq_false c6
      clear c6
      (first | rw [c6b0] | (simp only [i64_w, i32_w]; rw [c6b0]) | skip)
      have H' := Aside0.mk H
      clear H
      go_wp2
      go_meet
      case rel => exact ⟨_, (decide (a1 > 100000)), (by first | rfl | (simp; done) | (simp [*]; done)), H', ⟨by first | omega | exact Nat.le_refl _⟩, ⟨by (with_reducible repeat (first | refine blk_drewN ?_ _ | refine blk_drew ?_ | refine blk_alloc ?_ _)); exact BK206.out⟩, ⟨by (with_reducible repeat (first | refine blk_drewN ?_ _ | refine blk_drew ?_ | refine blk_alloc ?_ _)); exact BK207.out⟩, ⟨by repeat (first | (with_reducible first | exact HB.out | apply below_alloc | apply pw_below_drewN | apply below_drew1 | refine below_set ?_ GE206.out | refine below_set ?_ GE207.out) | exact HB.out)⟩⟩
  case rest =>
    clear HC3
    try clear c2
    try clear p2
    try clear c6
    try clear c6b0
    obtain ⟨kq, x12_2, rfl, HA, HJ2, BK206, BK207, HB⟩ := hcut
    cases kq with
    | zero => exact absurd HA.out (by simp [whirligigref09_Run.j0])
    | succ kj2 =>
      have H := HA.out
      clear HA
      simp only [whirligigref09_Run.j0] at H
      by_cases c7 : x12_2 = true
      · subst c7
        have H1 : (some (0, 0, 0, 0, false, false, 1)) = some (r1, r2, r3, r4, r5, r6, r7) := by rw [if_pos rfl] at H; exact H
        clear H
        have H := H1
        clear H1
        simp only [Option.some.injEq, Prod.mk.injEq] at H
        obtain ⟨rfl, rfl, rfl, rfl, rfl, rfl, rfl⟩ := H
        have hnb8 := NB207_206.out
        have hnc8 := NB206_207.out
        have hcz9_0 : wc.cell? ⟨gb207, 0, none⟩ = some (.int .u8 0) := (blk_cell BK207.out 0).trans rfl
        have hcz9_1 : wc.cell? ⟨gb207, 1, none⟩ = some (.int .u8 0) := (blk_cell BK207.out 1).trans rfl
        have hcz9_2 : wc.cell? ⟨gb207, 2, none⟩ = some (.int .u8 0) := (blk_cell BK207.out 2).trans rfl
        have hcz9_3 : wc.cell? ⟨gb207, 3, none⟩ = some (.int .u16 0) := (blk_cell BK207.out 3).trans rfl
        have hcz9_4 : wc.cell? ⟨gb207, 4, none⟩ = some (.bool false) := (blk_cell BK207.out 4).trans rfl
        have hcz9_5 : wc.cell? ⟨gb207, 5, none⟩ = some (.bool false) := (blk_cell BK207.out 5).trans rfl
        have hfz9_0 := blk_frozen BK207.out 0
        have hfz9_1 := blk_frozen BK207.out 1
        have hfz9_2 := blk_frozen BK207.out 2
        have hfz9_3 := blk_frozen BK207.out 3
        have hfz9_4 := blk_frozen BK207.out 4
        have hfz9_5 := blk_frozen BK207.out 5
        go_wp2
        refine bodyPost_ret (results_ct rfl _ _ gb207 24 #[.int .u8 0, .int .u8 0, .int .u8 0, .int .u16 0, .bool false, .bool false] (0, 0) _ rfl (by (with_reducible repeat (first | refine blk_drewN ?_ _ | refine blk_drew ?_ | refine blk_alloc ?_ _)); refine blk_put (cs := #[.int .u8 0, .int .u8 0, .int .u8 0, .int .u16 0, .bool false, .bool false]) ?_ 5 _ rfl; (with_reducible repeat (first | refine blk_drewN ?_ _ | refine blk_drew ?_ | refine blk_alloc ?_ _)); refine blk_put (cs := #[.int .u8 0, .int .u8 0, .int .u8 0, .int .u16 0, .bool false, .bool false]) ?_ 4 _ rfl; (with_reducible repeat (first | refine blk_drewN ?_ _ | refine blk_drew ?_ | refine blk_alloc ?_ _)); refine blk_put (cs := #[.int .u8 0, .int .u8 0, .int .u8 0, .int .u16 0, .bool false, .bool false]) ?_ 3 _ rfl; (with_reducible repeat (first | refine blk_drewN ?_ _ | refine blk_drew ?_ | refine blk_alloc ?_ _)); refine blk_put (cs := #[.int .u8 0, .int .u8 0, .int .u8 0, .int .u16 0, .bool false, .bool false]) ?_ 2 _ rfl; (with_reducible repeat (first | refine blk_drewN ?_ _ | refine blk_drew ?_ | refine blk_alloc ?_ _)); refine blk_put (cs := #[.int .u8 0, .int .u8 0, .int .u8 0, .int .u16 0, .bool false, .bool false]) ?_ 1 _ rfl; (with_reducible repeat (first | refine blk_drewN ?_ _ | refine blk_drew ?_ | refine blk_alloc ?_ _)); refine blk_put (cs := #[.int .u8 0, .int .u8 0, .int .u8 0, .int .u16 0, .bool false, .bool false]) ?_ 0 _ rfl; (with_reducible repeat (first | refine blk_drewN ?_ _ | refine blk_drew ?_ | refine blk_alloc ?_ _)); exact BK207.out) Try.underlying24 rfl (by kernel_rfl)) rfl ?_
        exact ⟨by first | rfl | (simp [errW_none, errW_some] <;> rfl) | (simp [*, errW_none, errW_some] <;> rfl), by repeat (first | (with_reducible first | exact HB.out | apply below_alloc | apply pw_below_drewN | apply below_drew1 | refine below_set ?_ GE206.out | refine below_set ?_ GE207.out) | exact HB.out)⟩
      · replace c7 := Bool.eq_false_iff.mpr c7
        subst c7
        have H1 : ((whirligigref09_Norm.f a0_0 a0_1 a0_2 a0_3 a0_4 a0_5).bind fun bt208 => (whirligigref09_Run.l0 kj2 a1 0 bt208.1 bt208.2.1 bt208.2.2.1 bt208.2.2.2.1 bt208.2.2.2.2.1 bt208.2.2.2.2.2)) = some (r1, r2, r3, r4, r5, r6, r7) := by rw [if_neg (show ¬ (false = true) by decide)] at H; exact H
        clear H
        have H := H1
        clear H1
        replace H := Option.bind_eq_some_iff.mp H
        obtain ⟨⟨t208, t209, t210, t211, t212, t213⟩, A100, H⟩ := H
        replace H : (whirligigref09_Run.l0 kj2 a1 0 t208 t209 t210 t211 t212 t213) = some (r1, r2, r3, r4, r5, r6, r7) := H
        have A10 := Aside0.mk A100
        clear A100
        have H' := Aside0.mk H
        clear H
        have hnb11 := NB206_207.out
        have hnc11 := NB207_206.out
        have hcz12_0 : wc.cell? ⟨gb206, 0, none⟩ = some (.int .u8 a0_0) := (blk_cell BK206.out 0).trans rfl
        have hcz12_1 : wc.cell? ⟨gb206, 1, none⟩ = some (.int .u8 a0_1) := (blk_cell BK206.out 1).trans rfl
        have hcz12_2 : wc.cell? ⟨gb206, 2, none⟩ = some (.int .u8 a0_2) := (blk_cell BK206.out 2).trans rfl
        have hcz12_3 : wc.cell? ⟨gb206, 3, none⟩ = some (.int .u16 a0_3) := (blk_cell BK206.out 3).trans rfl
        have hcz12_4 : wc.cell? ⟨gb206, 4, none⟩ = some (.bool a0_4) := (blk_cell BK206.out 4).trans rfl
        have hcz12_5 : wc.cell? ⟨gb206, 5, none⟩ = some (.bool a0_5) := (blk_cell BK206.out 5).trans rfl
        have hfz12_0 := blk_frozen BK206.out 0
        have hfz12_1 := blk_frozen BK206.out 1
        have hfz12_2 := blk_frozen BK206.out 2
        have hfz12_3 := blk_frozen BK206.out 3
        have hfz12_4 := blk_frozen BK206.out 4
        have hfz12_5 := blk_frozen BK206.out 5
        go_wp2_with (first | ((with_reducible refine gate_callee (f := 16) rfl ?_); refine goesL_ (some 15) rfl rfl Try.func16 (by kernel_rfl) rfl #[.agg #[.int .u8 a0_0, .int .u8 a0_1, .int .u8 a0_2, .int .u16 a0_3, .bool a0_4, .bool a0_5]] rfl (by (try simp only [List.map_toArray, List.map_cons, List.map_nil]); first | done | rfl | (simp only [List.length_drop, List.length_take]; rfl)) ?_; (with_reducible refine (whirligigref09_Norm.calls a0_0 a0_1 a0_2 a0_3 a0_4 a0_5 t208 t209 t210 t211 t212 t213 _ A10.out).mono ?_); rintro e w13 ⟨rfl, hb⟩; refine ⟨_, rfl, ?_⟩; have n0_ := Aside0.mk (blk_below (g := gb206) (o := .cells #[.int .u8 a0_0, .int .u8 a0_1, .int .u8 a0_2, .int .u16 a0_3, .bool a0_4, .bool a0_5] 24 (0, 0)) (by (with_reducible repeat (first | refine blk_drewN ?_ _ | refine blk_drew ?_ | refine blk_alloc ?_ _)); exact BK206.out) hb); have n1_ := Aside0.mk (blk_below (g := gb207) (o := .cells #[.int .u8 0, .int .u8 0, .int .u8 0, .int .u16 0, .bool false, .bool false] 24 (0, 0)) (by (with_reducible repeat (first | refine blk_drewN ?_ _ | refine blk_drew ?_ | refine blk_alloc ?_ _)); exact BK207.out) hb); have n2_ := Aside0.mk (below_step (by repeat (first | (with_reducible first | exact HB.out | apply below_alloc | apply pw_below_drewN | apply below_drew1 | refine below_set ?_ GE206.out | refine below_set ?_ GE207.out) | exact HB.out)) hb); clear BK206; clear BK207; clear HB; have BK206 := n0_; have BK207 := n1_; have HB := n2_; clear n0_ n1_ n2_; (try clear hb); (try clear hb2); (try clear hk); (try clear hi); have hcz14_0 : w13.cell? ⟨gb206, 0, none⟩ = some (.int .u8 a0_0) := (blk_cell BK206.out 0).trans rfl; have hcz14_1 : w13.cell? ⟨gb206, 1, none⟩ = some (.int .u8 a0_1) := (blk_cell BK206.out 1).trans rfl; have hcz14_2 : w13.cell? ⟨gb206, 2, none⟩ = some (.int .u8 a0_2) := (blk_cell BK206.out 2).trans rfl; have hcz14_3 : w13.cell? ⟨gb206, 3, none⟩ = some (.int .u16 a0_3) := (blk_cell BK206.out 3).trans rfl; have hcz14_4 : w13.cell? ⟨gb206, 4, none⟩ = some (.bool a0_4) := (blk_cell BK206.out 4).trans rfl; have hcz14_5 : w13.cell? ⟨gb206, 5, none⟩ = some (.bool a0_5) := (blk_cell BK206.out 5).trans rfl; have hfz14_0 := blk_frozen BK206.out 0; have hfz14_1 := blk_frozen BK206.out 1; have hfz14_2 := blk_frozen BK206.out 2; have hfz14_3 := blk_frozen BK206.out 3; have hfz14_4 := blk_frozen BK206.out 4; have hfz14_5 := blk_frozen BK206.out 5))
        go_loopg [6] kj2 (fun kq v6 w' => ∃ (x6_2 : Int) (x207000_2 : Int) (x207001_2 : Int) (x207002_2 : Int) (x207003_2 : Int) (x207004_2 : Bool) (x207005_2 : Bool), v6 = .int .i64 x6_2 ∧ Aside0 (whirligigref09_Run.l0 kq a1 x6_2 x207000_2 x207001_2 x207002_2 x207003_2 x207004_2 x207005_2 = some (r1, r2, r3, r4, r5, r6, r7)) ∧ Aside0 (kq ≤ kj2) ∧ Aside0 (w'.heap[gb206]? = some (.cells #[.int .u8 x207000_2, .int .u8 x207001_2, .int .u8 x207002_2, .int .u16 x207003_2, .bool x207004_2, .bool x207005_2] 24 (0, 0))) ∧ Aside0 (w'.heap[gb207]? = some (.cells #[.int .u8 0, .int .u8 0, .int .u8 0, .int .u16 0, .bool false, .bool false] 24 (0, 0))) ∧ Aside0 (Below w.heap.size w w'))
        case atStart => exact ⟨(0), (t208), (t209), (t210), (t211), (t212), (t213), (by first | rfl | (simp; done) | (simp [*]; done)), H', ⟨Nat.le_refl _⟩, ⟨by (with_reducible repeat (first | refine blk_drewN ?_ _ | refine blk_drew ?_ | refine blk_alloc ?_ _)); refine blk_put (cs := #[.int .u8 t208, .int .u8 t209, .int .u8 t210, .int .u16 t211, .bool t212, .bool a0_5]) ?_ 5 _ rfl; (with_reducible repeat (first | refine blk_drewN ?_ _ | refine blk_drew ?_ | refine blk_alloc ?_ _)); refine blk_put (cs := #[.int .u8 t208, .int .u8 t209, .int .u8 t210, .int .u16 t211, .bool a0_4, .bool a0_5]) ?_ 4 _ rfl; (with_reducible repeat (first | refine blk_drewN ?_ _ | refine blk_drew ?_ | refine blk_alloc ?_ _)); refine blk_put (cs := #[.int .u8 t208, .int .u8 t209, .int .u8 t210, .int .u16 a0_3, .bool a0_4, .bool a0_5]) ?_ 3 _ rfl; (with_reducible repeat (first | refine blk_drewN ?_ _ | refine blk_drew ?_ | refine blk_alloc ?_ _)); refine blk_put (cs := #[.int .u8 t208, .int .u8 t209, .int .u8 a0_2, .int .u16 a0_3, .bool a0_4, .bool a0_5]) ?_ 2 _ rfl; (with_reducible repeat (first | refine blk_drewN ?_ _ | refine blk_drew ?_ | refine blk_alloc ?_ _)); refine blk_put (cs := #[.int .u8 t208, .int .u8 a0_1, .int .u8 a0_2, .int .u16 a0_3, .bool a0_4, .bool a0_5]) ?_ 1 _ rfl; (with_reducible repeat (first | refine blk_drewN ?_ _ | refine blk_drew ?_ | refine blk_alloc ?_ _)); refine blk_put (cs := #[.int .u8 a0_0, .int .u8 a0_1, .int .u8 a0_2, .int .u16 a0_3, .bool a0_4, .bool a0_5]) ?_ 0 _ rfl; (with_reducible repeat (first | refine blk_drewN ?_ _ | refine blk_drew ?_ | refine blk_alloc ?_ _)); exact BK206.out⟩, ⟨by (with_reducible repeat (first | refine blk_drewN ?_ _ | refine blk_drew ?_ | refine blk_alloc ?_ _)); refine blk_far ?_ NB207_206.out _; (with_reducible repeat (first | refine blk_drewN ?_ _ | refine blk_drew ?_ | refine blk_alloc ?_ _)); refine blk_far ?_ NB207_206.out _; (with_reducible repeat (first | refine blk_drewN ?_ _ | refine blk_drew ?_ | refine blk_alloc ?_ _)); refine blk_far ?_ NB207_206.out _; (with_reducible repeat (first | refine blk_drewN ?_ _ | refine blk_drew ?_ | refine blk_alloc ?_ _)); refine blk_far ?_ NB207_206.out _; (with_reducible repeat (first | refine blk_drewN ?_ _ | refine blk_drew ?_ | refine blk_alloc ?_ _)); refine blk_far ?_ NB207_206.out _; (with_reducible repeat (first | refine blk_drewN ?_ _ | refine blk_drew ?_ | refine blk_alloc ?_ _)); refine blk_far ?_ NB207_206.out _; (with_reducible repeat (first | refine blk_drewN ?_ _ | refine blk_drew ?_ | refine blk_alloc ?_ _)); exact BK207.out⟩, ⟨by repeat (first | (with_reducible first | exact HB.out | apply below_alloc | apply pw_below_drewN | apply below_drew1 | refine below_set ?_ GE206.out | refine below_set ?_ GE207.out) | exact HB.out)⟩⟩
        case round =>
          clear H'
          try clear c1
          try clear c2
          try clear p2
          try clear c6
          try clear c6b0
          try clear c7
          try clear c8
          try clear c11
          try clear hcz12_0
          try clear hcz12_1
          try clear hcz12_2
          try clear hcz12_3
          try clear hcz12_4
          try clear hcz12_5
          try clear hcz14_0
          try clear hcz14_1
          try clear hcz14_2
          try clear hcz14_3
          try clear hcz14_4
          try clear hcz14_5
          try clear hcz9_0
          try clear hcz9_1
          try clear hcz9_2
          try clear hcz9_3
          try clear hcz9_4
          try clear hcz9_5
          try clear hfz12_0
          try clear hfz12_1
          try clear hfz12_2
          try clear hfz12_3
          try clear hfz12_4
          try clear hfz12_5
          try clear hfz14_0
          try clear hfz14_1
          try clear hfz14_2
          try clear hfz14_3
          try clear hfz14_4
          try clear hfz14_5
          try clear hfz9_0
          try clear hfz9_1
          try clear hfz9_2
          try clear hfz9_3
          try clear hfz9_4
          try clear hfz9_5
          try clear p2
          obtain ⟨x6_2, x207000_2, x207001_2, x207002_2, x207003_2, x207004_2, x207005_2, rfl, HA, HK2, BK206, BK207, HB⟩ := hrel
          cases gk with
          | zero => exact absurd HA.out (by simp [whirligigref09_Run.l0])
          | succ k2 =>
            have H := HA.out
            clear HA
            simp only [whirligigref09_Run.l0] at H
            by_cases c15 : x6_2 < a1
            · rw [if_pos c15] at H
              have c15b0 : decide (x6_2 < a1) = true := decide_eq_true c15
              clear c15
              replace H := Option.bind_eq_some_iff.mp H
              obtain ⟨⟨t214, t215, t216, t217, t218, t219⟩, A160, H⟩ := H
              replace H : (whirligigref09_Run.l0 k2 a1 (wrap64 (x6_2 + 1)) t214 t215 t216 t217 t218 t219) = some (r1, r2, r3, r4, r5, r6, r7) := H
              have A16 := Aside0.mk A160
              clear A160
              have H' := Aside0.mk H
              clear H
              have hnb17 := NB206_207.out
              have hnc17 := NB207_206.out
              have hcz18_0 : wr.cell? ⟨gb206, 0, none⟩ = some (.int .u8 x207000_2) := (blk_cell BK206.out 0).trans rfl
              have hcz18_1 : wr.cell? ⟨gb206, 1, none⟩ = some (.int .u8 x207001_2) := (blk_cell BK206.out 1).trans rfl
              have hcz18_2 : wr.cell? ⟨gb206, 2, none⟩ = some (.int .u8 x207002_2) := (blk_cell BK206.out 2).trans rfl
              have hcz18_3 : wr.cell? ⟨gb206, 3, none⟩ = some (.int .u16 x207003_2) := (blk_cell BK206.out 3).trans rfl
              have hcz18_4 : wr.cell? ⟨gb206, 4, none⟩ = some (.bool x207004_2) := (blk_cell BK206.out 4).trans rfl
              have hcz18_5 : wr.cell? ⟨gb206, 5, none⟩ = some (.bool x207005_2) := (blk_cell BK206.out 5).trans rfl
              have hfz18_0 := blk_frozen BK206.out 0
              have hfz18_1 := blk_frozen BK206.out 1
              have hfz18_2 := blk_frozen BK206.out 2
              have hfz18_3 := blk_frozen BK206.out 3
              have hfz18_4 := blk_frozen BK206.out 4
              have hfz18_5 := blk_frozen BK206.out 5
              go_wp2_with (first | ((with_reducible refine gate_callee (f := 14) rfl ?_); refine goesL_ (some 22) rfl rfl Try.func14 (by kernel_rfl) rfl #[.agg #[.int .u8 x207000_2, .int .u8 x207001_2, .int .u8 x207002_2, .int .u16 x207003_2, .bool x207004_2, .bool x207005_2]] rfl (by (try simp only [List.map_toArray, List.map_cons, List.map_nil]); first | done | rfl | (simp only [List.length_drop, List.length_take]; rfl)) ?_; (with_reducible refine (whirligigref09_Tick.calls k2 x207000_2 x207001_2 x207002_2 x207003_2 x207004_2 x207005_2 t214 t215 t216 t217 t218 t219 _ A16.out).mono ?_); rintro e w19 ⟨rfl, hb⟩; refine ⟨_, rfl, ?_⟩; have n0_ := Aside0.mk (blk_below (g := gb206) (o := .cells #[.int .u8 x207000_2, .int .u8 x207001_2, .int .u8 x207002_2, .int .u16 x207003_2, .bool x207004_2, .bool x207005_2] 24 (0, 0)) (by (with_reducible repeat (first | refine blk_drewN ?_ _ | refine blk_drew ?_ | refine blk_alloc ?_ _)); exact BK206.out) hb); have n1_ := Aside0.mk (blk_below (g := gb207) (o := .cells #[.int .u8 0, .int .u8 0, .int .u8 0, .int .u16 0, .bool false, .bool false] 24 (0, 0)) (by (with_reducible repeat (first | refine blk_drewN ?_ _ | refine blk_drew ?_ | refine blk_alloc ?_ _)); exact BK207.out) hb); have n2_ := Aside0.mk (below_step (by repeat (first | (with_reducible first | exact HB.out | apply below_alloc | apply pw_below_drewN | apply below_drew1 | refine below_set ?_ GE206.out | refine below_set ?_ GE207.out) | exact HB.out)) hb); clear BK206; clear BK207; clear HB; have BK206 := n0_; have BK207 := n1_; have HB := n2_; clear n0_ n1_ n2_; (try clear hb); (try clear hb2); (try clear hk); (try clear hi); have hcz20_0 : w19.cell? ⟨gb206, 0, none⟩ = some (.int .u8 x207000_2) := (blk_cell BK206.out 0).trans rfl; have hcz20_1 : w19.cell? ⟨gb206, 1, none⟩ = some (.int .u8 x207001_2) := (blk_cell BK206.out 1).trans rfl; have hcz20_2 : w19.cell? ⟨gb206, 2, none⟩ = some (.int .u8 x207002_2) := (blk_cell BK206.out 2).trans rfl; have hcz20_3 : w19.cell? ⟨gb206, 3, none⟩ = some (.int .u16 x207003_2) := (blk_cell BK206.out 3).trans rfl; have hcz20_4 : w19.cell? ⟨gb206, 4, none⟩ = some (.bool x207004_2) := (blk_cell BK206.out 4).trans rfl; have hcz20_5 : w19.cell? ⟨gb206, 5, none⟩ = some (.bool x207005_2) := (blk_cell BK206.out 5).trans rfl; have hfz20_0 := blk_frozen BK206.out 0; have hfz20_1 := blk_frozen BK206.out 1; have hfz20_2 := blk_frozen BK206.out 2; have hfz20_3 := blk_frozen BK206.out 3; have hfz20_4 := blk_frozen BK206.out 4; have hfz20_5 := blk_frozen BK206.out 5))
              go_roundg k2
              case measure => have := HJ2.out; have := HK2.out; omega
              case rel => exact ⟨(wrap64 (x6_2 + 1)), (t214), (t215), (t216), (t217), (t218), (t219), (by first | rfl | (simp; done) | (simp [*]; done)), H', ⟨by have := HJ2.out; have := HK2.out; omega⟩, ⟨by (with_reducible repeat (first | refine blk_drewN ?_ _ | refine blk_drew ?_ | refine blk_alloc ?_ _)); refine blk_put (cs := #[.int .u8 t214, .int .u8 t215, .int .u8 t216, .int .u16 t217, .bool t218, .bool x207005_2]) ?_ 5 _ rfl; (with_reducible repeat (first | refine blk_drewN ?_ _ | refine blk_drew ?_ | refine blk_alloc ?_ _)); refine blk_put (cs := #[.int .u8 t214, .int .u8 t215, .int .u8 t216, .int .u16 t217, .bool x207004_2, .bool x207005_2]) ?_ 4 _ rfl; (with_reducible repeat (first | refine blk_drewN ?_ _ | refine blk_drew ?_ | refine blk_alloc ?_ _)); refine blk_put (cs := #[.int .u8 t214, .int .u8 t215, .int .u8 t216, .int .u16 x207003_2, .bool x207004_2, .bool x207005_2]) ?_ 3 _ rfl; (with_reducible repeat (first | refine blk_drewN ?_ _ | refine blk_drew ?_ | refine blk_alloc ?_ _)); refine blk_put (cs := #[.int .u8 t214, .int .u8 t215, .int .u8 x207002_2, .int .u16 x207003_2, .bool x207004_2, .bool x207005_2]) ?_ 2 _ rfl; (with_reducible repeat (first | refine blk_drewN ?_ _ | refine blk_drew ?_ | refine blk_alloc ?_ _)); refine blk_put (cs := #[.int .u8 t214, .int .u8 x207001_2, .int .u8 x207002_2, .int .u16 x207003_2, .bool x207004_2, .bool x207005_2]) ?_ 1 _ rfl; (with_reducible repeat (first | refine blk_drewN ?_ _ | refine blk_drew ?_ | refine blk_alloc ?_ _)); refine blk_put (cs := #[.int .u8 x207000_2, .int .u8 x207001_2, .int .u8 x207002_2, .int .u16 x207003_2, .bool x207004_2, .bool x207005_2]) ?_ 0 _ rfl; (with_reducible repeat (first | refine blk_drewN ?_ _ | refine blk_drew ?_ | refine blk_alloc ?_ _)); exact BK206.out⟩, ⟨by (with_reducible repeat (first | refine blk_drewN ?_ _ | refine blk_drew ?_ | refine blk_alloc ?_ _)); refine blk_far ?_ NB207_206.out _; (with_reducible repeat (first | refine blk_drewN ?_ _ | refine blk_drew ?_ | refine blk_alloc ?_ _)); refine blk_far ?_ NB207_206.out _; (with_reducible repeat (first | refine blk_drewN ?_ _ | refine blk_drew ?_ | refine blk_alloc ?_ _)); refine blk_far ?_ NB207_206.out _; (with_reducible repeat (first | refine blk_drewN ?_ _ | refine blk_drew ?_ | refine blk_alloc ?_ _)); refine blk_far ?_ NB207_206.out _; (with_reducible repeat (first | refine blk_drewN ?_ _ | refine blk_drew ?_ | refine blk_alloc ?_ _)); refine blk_far ?_ NB207_206.out _; (with_reducible repeat (first | refine blk_drewN ?_ _ | refine blk_drew ?_ | refine blk_alloc ?_ _)); refine blk_far ?_ NB207_206.out _; (with_reducible repeat (first | refine blk_drewN ?_ _ | refine blk_drew ?_ | refine blk_alloc ?_ _)); exact BK207.out⟩, ⟨by repeat (first | (with_reducible first | exact HB.out | apply below_alloc | apply pw_below_drewN | apply below_drew1 | refine below_set ?_ GE206.out | refine below_set ?_ GE207.out) | exact HB.out)⟩⟩
            · rw [if_neg c15] at H
              have c15b0 : decide (x6_2 < a1) = false := decide_eq_false c15
              clear c15
              simp only [Option.some.injEq, Prod.mk.injEq] at H
              obtain ⟨rfl, rfl, rfl, rfl, rfl, rfl, rfl⟩ := H
              have hnb21 := NB206_207.out
              have hnc21 := NB207_206.out
              have hcz22_0 : wr.cell? ⟨gb206, 0, none⟩ = some (.int .u8 x207000_2) := (blk_cell BK206.out 0).trans rfl
              have hcz22_1 : wr.cell? ⟨gb206, 1, none⟩ = some (.int .u8 x207001_2) := (blk_cell BK206.out 1).trans rfl
              have hcz22_2 : wr.cell? ⟨gb206, 2, none⟩ = some (.int .u8 x207002_2) := (blk_cell BK206.out 2).trans rfl
              have hcz22_3 : wr.cell? ⟨gb206, 3, none⟩ = some (.int .u16 x207003_2) := (blk_cell BK206.out 3).trans rfl
              have hcz22_4 : wr.cell? ⟨gb206, 4, none⟩ = some (.bool x207004_2) := (blk_cell BK206.out 4).trans rfl
              have hcz22_5 : wr.cell? ⟨gb206, 5, none⟩ = some (.bool x207005_2) := (blk_cell BK206.out 5).trans rfl
              have hfz22_0 := blk_frozen BK206.out 0
              have hfz22_1 := blk_frozen BK206.out 1
              have hfz22_2 := blk_frozen BK206.out 2
              have hfz22_3 := blk_frozen BK206.out 3
              have hfz22_4 := blk_frozen BK206.out 4
              have hfz22_5 := blk_frozen BK206.out 5
              have hcz23_0 : wr.cell? ⟨gb207, 0, none⟩ = some (.int .u8 0) := (blk_cell BK207.out 0).trans rfl
              have hcz23_1 : wr.cell? ⟨gb207, 1, none⟩ = some (.int .u8 0) := (blk_cell BK207.out 1).trans rfl
              have hcz23_2 : wr.cell? ⟨gb207, 2, none⟩ = some (.int .u8 0) := (blk_cell BK207.out 2).trans rfl
              have hcz23_3 : wr.cell? ⟨gb207, 3, none⟩ = some (.int .u16 0) := (blk_cell BK207.out 3).trans rfl
              have hcz23_4 : wr.cell? ⟨gb207, 4, none⟩ = some (.bool false) := (blk_cell BK207.out 4).trans rfl
              have hcz23_5 : wr.cell? ⟨gb207, 5, none⟩ = some (.bool false) := (blk_cell BK207.out 5).trans rfl
              have hfz23_0 := blk_frozen BK207.out 0
              have hfz23_1 := blk_frozen BK207.out 1
              have hfz23_2 := blk_frozen BK207.out 2
              have hfz23_3 := blk_frozen BK207.out 3
              have hfz23_4 := blk_frozen BK207.out 4
              have hfz23_5 := blk_frozen BK207.out 5
              go_wp2
              refine bodyPost_ret (results_ct rfl _ _ gb207 24 #[.int .u8 x207000_2, .int .u8 x207001_2, .int .u8 x207002_2, .int .u16 x207003_2, .bool x207004_2, .bool x207005_2] (0, 0) _ rfl (by (with_reducible repeat (first | refine blk_drewN ?_ _ | refine blk_drew ?_ | refine blk_alloc ?_ _)); refine blk_put (cs := #[.int .u8 x207000_2, .int .u8 x207001_2, .int .u8 x207002_2, .int .u16 x207003_2, .bool x207004_2, .bool false]) ?_ 5 _ rfl; (with_reducible repeat (first | refine blk_drewN ?_ _ | refine blk_drew ?_ | refine blk_alloc ?_ _)); refine blk_put (cs := #[.int .u8 x207000_2, .int .u8 x207001_2, .int .u8 x207002_2, .int .u16 x207003_2, .bool false, .bool false]) ?_ 4 _ rfl; (with_reducible repeat (first | refine blk_drewN ?_ _ | refine blk_drew ?_ | refine blk_alloc ?_ _)); refine blk_put (cs := #[.int .u8 x207000_2, .int .u8 x207001_2, .int .u8 x207002_2, .int .u16 0, .bool false, .bool false]) ?_ 3 _ rfl; (with_reducible repeat (first | refine blk_drewN ?_ _ | refine blk_drew ?_ | refine blk_alloc ?_ _)); refine blk_put (cs := #[.int .u8 x207000_2, .int .u8 x207001_2, .int .u8 0, .int .u16 0, .bool false, .bool false]) ?_ 2 _ rfl; (with_reducible repeat (first | refine blk_drewN ?_ _ | refine blk_drew ?_ | refine blk_alloc ?_ _)); refine blk_put (cs := #[.int .u8 x207000_2, .int .u8 0, .int .u8 0, .int .u16 0, .bool false, .bool false]) ?_ 1 _ rfl; (with_reducible repeat (first | refine blk_drewN ?_ _ | refine blk_drew ?_ | refine blk_alloc ?_ _)); refine blk_put (cs := #[.int .u8 0, .int .u8 0, .int .u8 0, .int .u16 0, .bool false, .bool false]) ?_ 0 _ rfl; (with_reducible repeat (first | refine blk_drewN ?_ _ | refine blk_drew ?_ | refine blk_alloc ?_ _)); exact BK207.out) Try.underlying24 rfl (by kernel_rfl)) rfl ?_
              exact ⟨by first | rfl | (simp [errW_none, errW_some] <;> rfl) | (simp [*, errW_none, errW_some] <;> rfl), by repeat (first | (with_reducible first | exact HB.out | apply below_alloc | apply pw_below_drewN | apply below_drew1 | refine below_set ?_ GE206.out | refine below_set ?_ GE207.out) | exact HB.out)⟩

end Go.Proofs.Ytkfjofkocccefaa.G
