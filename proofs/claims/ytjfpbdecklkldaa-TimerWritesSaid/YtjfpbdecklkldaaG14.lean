/- Written by a program of this session, after the kit's print: Go functions as Lean functions, each with the proof that the Go text comes to it. -/
import Derived.Test.YtjfpbdecklkldaaG0
import Derived.Test.YtjfpbdecklkldaaG9
import Derived.Test.YtjfpbdecklkldaaG11
namespace Go.Proofs.Ytjfpbdecklkldaa.G
open Go.RowKit Go.Proofs.YtjfpbdecklkldaaW.PrintWords Go.Proofs.YtjfpbdecklkldaaW.PrintLast Go.Proofs.YtjfpbdecklkldaaW.PrintMore
attribute [local go_sem] max2_int min2_int max_two min_two max_three min_three max_four min_four   -- for this text's walks alone
set_option linter.unusedVariables false
set_option linter.unusedSimpArgs false

/-! ### whirligigref11_Write: function 16 -/
def whirligigref11_Write.j0 : Nat → Int → Bool → Int → Int → Int → Int → Int → Option (Int × Int × Int × Int × Int)
  | 0, _, _, _, _, _, _, _ => none
  | k + 1, x1, x7, x185000, x185001, x185002, x185003, x185004 => if x1 = 65284 then (if x7 = true then ((whirligigref11_Hot.f k x185000 x185001 x185002 x185003 x185004).bind fun t187 => (if t187 = true then (some (x185000, x185001, x185002, x185003, x185004)) else ((whirligigref11_count.f x185000 x185001 x185002 x185003 x185004).bind fun bt188 => (some (bt188.1, bt188.2.1, bt188.2.2.1, bt188.2.2.2.1, bt188.2.2.2.2))))) else (some (x185000, x185001, x185002, x185003, x185004))) else (if x1 = 65287 then (if x7 = true then ((whirligigref11_Hot.f k x185000 x185001 x185002 x185003 x185004).bind fun t193 => (if t193 = true then (some (x185000, x185001, x185002, x185003, x185004)) else ((whirligigref11_count.f x185000 x185001 x185002 x185003 x185004).bind fun bt194 => (some (bt194.1, bt194.2.1, bt194.2.2.1, bt194.2.2.2.1, bt194.2.2.2.2))))) else (some (x185000, x185001, x185002, x185003, x185004))) else (some (x185000, x185001, x185002, x185003, x185004)))
def whirligigref11_Write.f (k : Nat) (a0_0 : Int) (a0_1 : Int) (a0_2 : Int) (a0_3 : Int) (a0_4 : Int) (a1 : Int) (a2 : Int) : Option (Int × Int × Int × Int × Int) := (whirligigref11_Hot.f k a0_0 a0_1 a0_2 a0_3 a0_4).bind fun t186 => (if a1 = 65284 then (whirligigref11_Write.j0 k a1 t186 0 a0_1 a0_2 a0_3 a0_4) else (if a1 = 65285 then (if a0_4 = 2 then (if a0_4 = 1 then (whirligigref11_Write.j0 k a1 t186 a0_0 a0_1 a0_2 a0_3 0) else (whirligigref11_Write.j0 k a1 t186 a0_0 a0_1 a0_2 a0_3 a0_4)) else (if a0_4 = 1 then (whirligigref11_Write.j0 k a1 t186 a0_0 a2 a0_2 a0_3 0) else (whirligigref11_Write.j0 k a1 t186 a0_0 a2 a0_2 a0_3 a0_4))) else (if a1 = 65286 then (if a0_4 = 2 then (whirligigref11_Write.j0 k a1 t186 a0_0 a2 a2 a0_3 a0_4) else (whirligigref11_Write.j0 k a1 t186 a0_0 a0_1 a2 a0_3 a0_4)) else (if a1 = 65287 then (whirligigref11_Write.j0 k a1 t186 a0_0 a0_1 a0_2 (Int.tmod a2 8) a0_4) else (whirligigref11_Write.j0 k a1 t186 a0_0 a0_1 a0_2 a0_3 a0_4)))))
theorem whirligigref11_Write.mono_l : ∀ k, (∀ y0 y1 y2 y3 y4 y5 y6, LeO (whirligigref11_Write.j0 k y0 y1 y2 y3 y4 y5 y6) (whirligigref11_Write.j0 (k + 1) y0 y1 y2 y3 y4 y5 y6))
  | 0 => fun _ _ _ _ _ _ _ r h => by simp [whirligigref11_Write.j0] at h
  | k + 1 => by
    have ih0 := whirligigref11_Write.mono_l k
    · intro y0 y1 y2 y3 y4 y5 y6
      unfold whirligigref11_Write.j0
      repeat' first
      | (with_reducible exact ih0 _ _ _ _ _ _ _)
      | (with_reducible exact whirligigref11_Hot.mono _ _ _ _ _ _)
      | (with_reducible exact LeO.refl _)
      | (with_reducible exact LeO.none _)
      | (with_reducible refine LeO.ite ?_ ?_)
      | (with_reducible refine LeO.bind ?_ (fun _ => ?_))
      | exact ih0 _ _ _ _ _ _ _
      | exact whirligigref11_Hot.mono _ _ _ _ _ _
      | exact LeO.none _
      | refine LeO.ite ?_ ?_
      | refine LeO.bind ?_ (fun _ => ?_)
theorem whirligigref11_Write.mono : ∀ a0 a1 a2 a3 a4 a5 a6 k, LeO (whirligigref11_Write.f k a0 a1 a2 a3 a4 a5 a6) (whirligigref11_Write.f (k + 1) a0 a1 a2 a3 a4 a5 a6) := by
  intro a0 a1 a2 a3 a4 a5 a6 k
  have ih0 := whirligigref11_Write.mono_l k
  unfold whirligigref11_Write.f
  repeat' first
      | (with_reducible exact ih0 _ _ _ _ _ _ _)
      | (with_reducible exact whirligigref11_Hot.mono _ _ _ _ _ _)
      | (with_reducible exact LeO.refl _)
      | (with_reducible exact LeO.none _)
      | (with_reducible refine LeO.ite ?_ ?_)
      | (with_reducible refine LeO.bind ?_ (fun _ => ?_))
      | exact ih0 _ _ _ _ _ _ _
      | exact whirligigref11_Hot.mono _ _ _ _ _ _
      | exact LeO.none _
      | refine LeO.ite ?_ ?_
      | refine LeO.bind ?_ (fun _ => ?_)
set_option maxHeartbeats 8000000 in
set_option maxRecDepth 100000 in
theorem whirligigref11_Write.calls (k : Nat) (a0_0 : Int) (a0_1 : Int) (a0_2 : Int) (a0_3 : Int) (a0_4 : Int) (a1 : Int) (a2 : Int) (r1 : Int) (r2 : Int) (r3 : Int) (r4 : Int) (r5 : Int) (w : World) (h : whirligigref11_Write.f k a0_0 a0_1 a0_2 a0_3 a0_4 a1 a2 = some (r1, r2, r3, r4, r5)) :
    Calls Try.prog 16 #[.agg #[.int .u16 a0_0, .int .u8 a0_1, .int .u8 a0_2, .int .u8 a0_3, .int .u8 a0_4], .int .u16 a1, .int .u8 a2] w fun e w' => e = .returned (.agg #[.int .u16 r1, .int .u8 r2, .int .u8 r3, .int .u8 r4, .int .u8 r5]) ∧ Below w.heap.size w w' := by
  have hu24 := Try.underlying24
  have HB := Aside0.mk (Below.refl w.heap.size w)
  have H : ((whirligigref11_Hot.f k a0_0 a0_1 a0_2 a0_3 a0_4).bind fun t186 => (if a1 = 65284 then (whirligigref11_Write.j0 k a1 t186 0 a0_1 a0_2 a0_3 a0_4) else (if a1 = 65285 then (if a0_4 = 2 then (if a0_4 = 1 then (whirligigref11_Write.j0 k a1 t186 a0_0 a0_1 a0_2 a0_3 0) else (whirligigref11_Write.j0 k a1 t186 a0_0 a0_1 a0_2 a0_3 a0_4)) else (if a0_4 = 1 then (whirligigref11_Write.j0 k a1 t186 a0_0 a2 a0_2 a0_3 0) else (whirligigref11_Write.j0 k a1 t186 a0_0 a2 a0_2 a0_3 a0_4))) else (if a1 = 65286 then (if a0_4 = 2 then (whirligigref11_Write.j0 k a1 t186 a0_0 a2 a2 a0_3 a0_4) else (whirligigref11_Write.j0 k a1 t186 a0_0 a0_1 a2 a0_3 a0_4)) else (if a1 = 65287 then (whirligigref11_Write.j0 k a1 t186 a0_0 a0_1 a0_2 (Int.tmod a2 8) a0_4) else (whirligigref11_Write.j0 k a1 t186 a0_0 a0_1 a0_2 a0_3 a0_4)))))) = some (r1, r2, r3, r4, r5) := h
  clear h
  replace H := Option.bind_eq_some_iff.mp H
  obtain ⟨t186, A40, H⟩ := H
  replace H : (if a1 = 65284 then (whirligigref11_Write.j0 k a1 t186 0 a0_1 a0_2 a0_3 a0_4) else (if a1 = 65285 then (if a0_4 = 2 then (if a0_4 = 1 then (whirligigref11_Write.j0 k a1 t186 a0_0 a0_1 a0_2 a0_3 0) else (whirligigref11_Write.j0 k a1 t186 a0_0 a0_1 a0_2 a0_3 a0_4)) else (if a0_4 = 1 then (whirligigref11_Write.j0 k a1 t186 a0_0 a2 a0_2 a0_3 0) else (whirligigref11_Write.j0 k a1 t186 a0_0 a2 a0_2 a0_3 a0_4))) else (if a1 = 65286 then (if a0_4 = 2 then (whirligigref11_Write.j0 k a1 t186 a0_0 a2 a2 a0_3 a0_4) else (whirligigref11_Write.j0 k a1 t186 a0_0 a0_1 a2 a0_3 a0_4)) else (if a1 = 65287 then (whirligigref11_Write.j0 k a1 t186 a0_0 a0_1 a0_2 (Int.tmod a2 8) a0_4) else (whirligigref11_Write.j0 k a1 t186 a0_0 a0_1 a0_2 a0_3 a0_4))))) = some (r1, r2, r3, r4, r5) := H
  have A4 := Aside0.mk A40
  clear A40
  have HC5 := Aside0.mk H
  clear H
  go_enter Try.func16, Try.ntmps16
  go_upto_block 0 with (first | ((with_reducible refine gate_dst (N := 3) rfl ?_); refine box_event ?hg (N := 3) ?hd (cs := #[.int .u16 a0_0, .int .u8 a0_1, .int .u8 a0_2, .int .u8 a0_3, .int .u8 a0_4]) (t := 24) ?hr ?_; (case hd => rfl); (case hg => rfl); (case hr => first | (go_simp; done) | (go_simp; rfl)); intro gb184 hg w6 hbox hb; have n0_ := Aside0.mk (below_step (by repeat (first | (with_reducible first | exact HB.out | apply below_alloc | apply pw_below_drewN | apply below_drew1) | exact HB.out)) hb); have n1_ := Aside0.mk (hbox); have n2_ := Aside0.mk ((by rw [hg]; exact (below_size (by repeat (first | (with_reducible first | exact HB.out | apply below_alloc | apply pw_below_drewN | apply below_drew1) | exact HB.out))) : w.heap.size ≤ gb184)); have n3_ := Aside0.mk ((by rw [hg]; exact (below_size (by repeat (first | (with_reducible first | exact HB.out | apply below_alloc | apply pw_below_drewN | apply below_drew1) | exact HB.out))) : w.heap.size ≤ gb184)); clear HB; have HB := n0_; have BK184 := n1_; have GW184 := n2_; have GE184 := n3_; clear n0_ n1_ n2_ n3_; clear hb hbox hg) | ((with_reducible refine gate_dst (N := 6) rfl ?_); refine box_event ?hg (N := 6) ?hd (cs := #[.int .u16 0, .int .u8 0, .int .u8 0, .int .u8 0, .int .u8 0]) (t := 24) ?hr ?_; (case hd => rfl); (case hg => rfl); (case hr => first | (go_simp; done) | (go_simp; rfl)); intro gb185 hg w7 hbox hb; have n0_ := Aside0.mk (blk_below (g := gb184) (o := .cells #[.int .u16 a0_0, .int .u8 a0_1, .int .u8 a0_2, .int .u8 a0_3, .int .u8 a0_4] 24 (0, 0)) (by (with_reducible repeat (first | refine blk_drewN ?_ _ | refine blk_drew ?_ | refine blk_alloc ?_ _)); exact BK184.out) hb); have n1_ := Aside0.mk (below_step (by repeat (first | (with_reducible first | exact HB.out | apply below_alloc | apply pw_below_drewN | apply below_drew1 | refine below_set ?_ GE184.out) | exact HB.out)) hb); have n2_ := Aside0.mk (hbox); have n3_ := Aside0.mk ((by rw [hg]; exact (below_size (by repeat (first | (with_reducible first | exact HB.out | apply below_alloc | apply pw_below_drewN | apply below_drew1 | refine below_set ?_ GE184.out) | exact HB.out))) : w.heap.size ≤ gb185)); have n4_ := Aside0.mk ((by rw [hg]; exact (below_size (by repeat (first | (with_reducible first | exact HB.out | apply below_alloc | apply pw_below_drewN | apply below_drew1 | refine below_set ?_ GE184.out) | exact HB.out))) : w.heap.size ≤ gb185)); have n5_ := Aside0.mk ((by rw [hg]; exact Nat.ne_of_lt (blk_lt (g := gb184) (o := .cells #[.int .u16 a0_0, .int .u8 a0_1, .int .u8 a0_2, .int .u8 a0_3, .int .u8 a0_4] 24 (0, 0)) (by (with_reducible repeat (first | refine blk_drewN ?_ _ | refine blk_drew ?_ | refine blk_alloc ?_ _)); exact BK184.out)) : gb184 ≠ gb185)); have n6_ := Aside0.mk ((by rw [hg]; exact Nat.ne_of_gt (blk_lt (g := gb184) (o := .cells #[.int .u16 a0_0, .int .u8 a0_1, .int .u8 a0_2, .int .u8 a0_3, .int .u8 a0_4] 24 (0, 0)) (by (with_reducible repeat (first | refine blk_drewN ?_ _ | refine blk_drew ?_ | refine blk_alloc ?_ _)); exact BK184.out)) : gb185 ≠ gb184)); clear BK184; clear HB; have BK184 := n0_; have HB := n1_; have BK185 := n2_; have GW185 := n3_; have GE185 := n4_; have NB184_185 := n5_; have NB185_184 := n6_; clear n0_ n1_ n2_ n3_ n4_ n5_ n6_; clear hb hbox hg; have hnb8 := NB184_185.out; have hnc8 := NB185_184.out; have hcz9_0 : w7.cell? ⟨gb184, 0, none⟩ = some (.int .u16 a0_0) := (blk_cell BK184.out 0).trans rfl; have hcz9_1 : w7.cell? ⟨gb184, 1, none⟩ = some (.int .u8 a0_1) := (blk_cell BK184.out 1).trans rfl; have hcz9_2 : w7.cell? ⟨gb184, 2, none⟩ = some (.int .u8 a0_2) := (blk_cell BK184.out 2).trans rfl; have hcz9_3 : w7.cell? ⟨gb184, 3, none⟩ = some (.int .u8 a0_3) := (blk_cell BK184.out 3).trans rfl; have hcz9_4 : w7.cell? ⟨gb184, 4, none⟩ = some (.int .u8 a0_4) := (blk_cell BK184.out 4).trans rfl; have hfz9_0 := blk_frozen BK184.out 0; have hfz9_1 := blk_frozen BK184.out 1; have hfz9_2 := blk_frozen BK184.out 2; have hfz9_3 := blk_frozen BK184.out 3; have hfz9_4 := blk_frozen BK184.out 4) | ((with_reducible refine gate_callee (f := 12) rfl ?_); refine goesL_ (some 9) rfl rfl Try.func12 (by kernel_rfl) rfl #[.agg #[.int .u16 a0_0, .int .u8 a0_1, .int .u8 a0_2, .int .u8 a0_3, .int .u8 a0_4]] rfl (by (try simp only [List.map_toArray, List.map_cons, List.map_nil]); first | done | rfl | (simp only [List.length_drop, List.length_take]; rfl)) ?_; (with_reducible refine (whirligigref11_Hot.calls k a0_0 a0_1 a0_2 a0_3 a0_4 t186 _ A4.out).mono ?_); rintro e w10 ⟨rfl, hb⟩; refine ⟨_, rfl, ?_⟩; have n0_ := Aside0.mk (blk_below (g := gb184) (o := .cells #[.int .u16 a0_0, .int .u8 a0_1, .int .u8 a0_2, .int .u8 a0_3, .int .u8 a0_4] 24 (0, 0)) (by (with_reducible repeat (first | refine blk_drewN ?_ _ | refine blk_drew ?_ | refine blk_alloc ?_ _)); exact BK184.out) hb); have n1_ := Aside0.mk (blk_below (g := gb185) (o := .cells #[.int .u16 0, .int .u8 0, .int .u8 0, .int .u8 0, .int .u8 0] 24 (0, 0)) (by (with_reducible repeat (first | refine blk_drewN ?_ _ | refine blk_drew ?_ | refine blk_alloc ?_ _)); exact BK185.out) hb); have n2_ := Aside0.mk (below_step (by repeat (first | (with_reducible first | exact HB.out | apply below_alloc | apply pw_below_drewN | apply below_drew1 | refine below_set ?_ GE184.out | refine below_set ?_ GE185.out) | exact HB.out)) hb); clear BK184; clear BK185; clear HB; have BK184 := n0_; have BK185 := n1_; have HB := n2_; clear n0_ n1_ n2_; (try clear hb); (try clear hb2); (try clear hk); (try clear hi)))
  (try simp only [Act.put, List.setIfInBounds_toArray, List.set_cons_zero, List.set_cons_succ])
  go_cut [] (fun wc => ∃ (kq : Nat) (x185000_4 : Int) (x185001_4 : Int) (x185002_4 : Int) (x185003_4 : Int) (x185004_4 : Int), Aside0 (whirligigref11_Write.j0 kq a1 t186 x185000_4 x185001_4 x185002_4 x185003_4 x185004_4 = some (r1, r2, r3, r4, r5)) ∧ Aside0 (kq ≤ k) ∧ Aside0 (wc.heap[gb184]? = some (.cells #[.int .u16 x185000_4, .int .u8 x185001_4, .int .u8 x185002_4, .int .u8 x185003_4, .int .u8 x185004_4] 24 (0, 0))) ∧ Aside0 (wc.heap[gb185]? = some (.cells #[.int .u16 0, .int .u8 0, .int .u8 0, .int .u8 0, .int .u8 0] 24 (0, 0))) ∧ Aside0 (Below w.heap.size w wc))
  case first =>
    have H := HC5.out
    clear HC5
    by_cases c11 : a1 = 65284
    · rw [if_pos c11] at H
      have c11b0 : (a1 == 65284) = true := beq_iff_eq.mpr c11
      have c11b1 : (a1 != 65284) = false := bne_eq_false_iff_eq.mpr c11
      clear c11
      (first | rw [c11b0] | (simp only [i64_w, i32_w]; rw [c11b0]) | skip)
      have H' := Aside0.mk H
      clear H
      have hnb12 := NB184_185.out
      have hnc12 := NB185_184.out
      have hcz13_0 : w10.cell? ⟨gb184, 0, none⟩ = some (.int .u16 a0_0) := (blk_cell BK184.out 0).trans rfl
      have hcz13_1 : w10.cell? ⟨gb184, 1, none⟩ = some (.int .u8 a0_1) := (blk_cell BK184.out 1).trans rfl
      have hcz13_2 : w10.cell? ⟨gb184, 2, none⟩ = some (.int .u8 a0_2) := (blk_cell BK184.out 2).trans rfl
      have hcz13_3 : w10.cell? ⟨gb184, 3, none⟩ = some (.int .u8 a0_3) := (blk_cell BK184.out 3).trans rfl
      have hcz13_4 : w10.cell? ⟨gb184, 4, none⟩ = some (.int .u8 a0_4) := (blk_cell BK184.out 4).trans rfl
      have hfz13_0 := blk_frozen BK184.out 0
      have hfz13_1 := blk_frozen BK184.out 1
      have hfz13_2 := blk_frozen BK184.out 2
      have hfz13_3 := blk_frozen BK184.out 3
      have hfz13_4 := blk_frozen BK184.out 4
      go_wp2
      go_meet
      case rel => exact ⟨_, (0), (a0_1), (a0_2), (a0_3), (a0_4), H', ⟨by first | omega | exact Nat.le_refl _⟩, ⟨by (with_reducible repeat (first | refine blk_drewN ?_ _ | refine blk_drew ?_ | refine blk_alloc ?_ _)); refine blk_put (cs := #[.int .u16 a0_0, .int .u8 a0_1, .int .u8 a0_2, .int .u8 a0_3, .int .u8 a0_4]) ?_ 0 _ rfl; (with_reducible repeat (first | refine blk_drewN ?_ _ | refine blk_drew ?_ | refine blk_alloc ?_ _)); exact BK184.out⟩, ⟨by (with_reducible repeat (first | refine blk_drewN ?_ _ | refine blk_drew ?_ | refine blk_alloc ?_ _)); refine blk_far ?_ NB185_184.out _; (with_reducible repeat (first | refine blk_drewN ?_ _ | refine blk_drew ?_ | refine blk_alloc ?_ _)); exact BK185.out⟩, ⟨by repeat (first | (with_reducible first | exact HB.out | apply below_alloc | apply pw_below_drewN | apply below_drew1 | refine below_set ?_ GE184.out | refine below_set ?_ GE185.out) | exact HB.out)⟩⟩
    · rw [if_neg c11] at H
      have c11b0 : (a1 == 65284) = false := beq_eq_false_iff_ne.mpr c11
      have c11b1 : (a1 != 65284) = true := bne_iff_ne.mpr c11
      (first | rw [c11b0] | (simp only [i64_w, i32_w]; rw [c11b0]) | skip)
      by_cases c14 : a1 = 65285
      · rw [if_pos c14] at H
        have c14b0 : (a1 == 65285) = true := beq_iff_eq.mpr c14
        have c14b1 : (a1 != 65285) = false := bne_eq_false_iff_eq.mpr c14
        clear c14
        by_cases c15 : a0_4 = 2
        · rw [if_pos c15] at H
          have c15b0 : (a0_4 == 2) = true := beq_iff_eq.mpr c15
          have c15b1 : (a0_4 != 2) = false := bne_eq_false_iff_eq.mpr c15
          clear c15
          by_cases c16 : a0_4 = 1
          · rw [if_pos c16] at H
            have c16b0 : (a0_4 == 1) = true := beq_iff_eq.mpr c16
            have c16b1 : (a0_4 != 1) = false := bne_eq_false_iff_eq.mpr c16
            clear c16
            have H' := Aside0.mk H
            clear H
            have hnb17 := NB184_185.out
            have hnc17 := NB185_184.out
            have hcz18_0 : w10.cell? ⟨gb184, 0, none⟩ = some (.int .u16 a0_0) := (blk_cell BK184.out 0).trans rfl
            have hcz18_1 : w10.cell? ⟨gb184, 1, none⟩ = some (.int .u8 a0_1) := (blk_cell BK184.out 1).trans rfl
            have hcz18_2 : w10.cell? ⟨gb184, 2, none⟩ = some (.int .u8 a0_2) := (blk_cell BK184.out 2).trans rfl
            have hcz18_3 : w10.cell? ⟨gb184, 3, none⟩ = some (.int .u8 a0_3) := (blk_cell BK184.out 3).trans rfl
            have hcz18_4 : w10.cell? ⟨gb184, 4, none⟩ = some (.int .u8 a0_4) := (blk_cell BK184.out 4).trans rfl
            have hfz18_0 := blk_frozen BK184.out 0
            have hfz18_1 := blk_frozen BK184.out 1
            have hfz18_2 := blk_frozen BK184.out 2
            have hfz18_3 := blk_frozen BK184.out 3
            have hfz18_4 := blk_frozen BK184.out 4
            go_wp2
            go_meet
            case rel => exact ⟨_, (a0_0), (a0_1), (a0_2), (a0_3), (0), H', ⟨by first | omega | exact Nat.le_refl _⟩, ⟨by (with_reducible repeat (first | refine blk_drewN ?_ _ | refine blk_drew ?_ | refine blk_alloc ?_ _)); refine blk_put (cs := #[.int .u16 a0_0, .int .u8 a0_1, .int .u8 a0_2, .int .u8 a0_3, .int .u8 a0_4]) ?_ 4 _ rfl; (with_reducible repeat (first | refine blk_drewN ?_ _ | refine blk_drew ?_ | refine blk_alloc ?_ _)); exact BK184.out⟩, ⟨by (with_reducible repeat (first | refine blk_drewN ?_ _ | refine blk_drew ?_ | refine blk_alloc ?_ _)); refine blk_far ?_ NB185_184.out _; (with_reducible repeat (first | refine blk_drewN ?_ _ | refine blk_drew ?_ | refine blk_alloc ?_ _)); exact BK185.out⟩, ⟨by repeat (first | (with_reducible first | exact HB.out | apply below_alloc | apply pw_below_drewN | apply below_drew1 | refine below_set ?_ GE184.out | refine below_set ?_ GE185.out) | exact HB.out)⟩⟩
          · rw [if_neg c16] at H
            have c16b0 : (a0_4 == 1) = false := beq_eq_false_iff_ne.mpr c16
            have c16b1 : (a0_4 != 1) = true := bne_iff_ne.mpr c16
            have H' := Aside0.mk H
            clear H
            have hnb19 := NB184_185.out
            have hnc19 := NB185_184.out
            have hcz20_0 : w10.cell? ⟨gb184, 0, none⟩ = some (.int .u16 a0_0) := (blk_cell BK184.out 0).trans rfl
            have hcz20_1 : w10.cell? ⟨gb184, 1, none⟩ = some (.int .u8 a0_1) := (blk_cell BK184.out 1).trans rfl
            have hcz20_2 : w10.cell? ⟨gb184, 2, none⟩ = some (.int .u8 a0_2) := (blk_cell BK184.out 2).trans rfl
            have hcz20_3 : w10.cell? ⟨gb184, 3, none⟩ = some (.int .u8 a0_3) := (blk_cell BK184.out 3).trans rfl
            have hcz20_4 : w10.cell? ⟨gb184, 4, none⟩ = some (.int .u8 a0_4) := (blk_cell BK184.out 4).trans rfl
            have hfz20_0 := blk_frozen BK184.out 0
            have hfz20_1 := blk_frozen BK184.out 1
            have hfz20_2 := blk_frozen BK184.out 2
            have hfz20_3 := blk_frozen BK184.out 3
            have hfz20_4 := blk_frozen BK184.out 4
            go_wp2
            go_meet
            case rel => exact ⟨_, (a0_0), (a0_1), (a0_2), (a0_3), (a0_4), H', ⟨by first | omega | exact Nat.le_refl _⟩, ⟨by (with_reducible repeat (first | refine blk_drewN ?_ _ | refine blk_drew ?_ | refine blk_alloc ?_ _)); exact BK184.out⟩, ⟨by (with_reducible repeat (first | refine blk_drewN ?_ _ | refine blk_drew ?_ | refine blk_alloc ?_ _)); exact BK185.out⟩, ⟨by repeat (first | (with_reducible first | exact HB.out | apply below_alloc | apply pw_below_drewN | apply below_drew1 | refine below_set ?_ GE184.out | refine below_set ?_ GE185.out) | exact HB.out)⟩⟩
        · rw [if_neg c15] at H
          have c15b0 : (a0_4 == 2) = false := beq_eq_false_iff_ne.mpr c15
          have c15b1 : (a0_4 != 2) = true := bne_iff_ne.mpr c15
          by_cases c21 : a0_4 = 1
          · rw [if_pos c21] at H
            have c21b0 : (a0_4 == 1) = true := beq_iff_eq.mpr c21
            have c21b1 : (a0_4 != 1) = false := bne_eq_false_iff_eq.mpr c21
            clear c21
            have H' := Aside0.mk H
            clear H
            have hnb22 := NB184_185.out
            have hnc22 := NB185_184.out
            have hcz23_0 : w10.cell? ⟨gb184, 0, none⟩ = some (.int .u16 a0_0) := (blk_cell BK184.out 0).trans rfl
            have hcz23_1 : w10.cell? ⟨gb184, 1, none⟩ = some (.int .u8 a0_1) := (blk_cell BK184.out 1).trans rfl
            have hcz23_2 : w10.cell? ⟨gb184, 2, none⟩ = some (.int .u8 a0_2) := (blk_cell BK184.out 2).trans rfl
            have hcz23_3 : w10.cell? ⟨gb184, 3, none⟩ = some (.int .u8 a0_3) := (blk_cell BK184.out 3).trans rfl
            have hcz23_4 : w10.cell? ⟨gb184, 4, none⟩ = some (.int .u8 a0_4) := (blk_cell BK184.out 4).trans rfl
            have hfz23_0 := blk_frozen BK184.out 0
            have hfz23_1 := blk_frozen BK184.out 1
            have hfz23_2 := blk_frozen BK184.out 2
            have hfz23_3 := blk_frozen BK184.out 3
            have hfz23_4 := blk_frozen BK184.out 4
            go_wp2
            go_meet
            case rel => exact ⟨_, (a0_0), (a2), (a0_2), (a0_3), (0), H', ⟨by first | omega | exact Nat.le_refl _⟩, ⟨by (with_reducible repeat (first | refine blk_drewN ?_ _ | refine blk_drew ?_ | refine blk_alloc ?_ _)); refine blk_put (cs := #[.int .u16 a0_0, .int .u8 a2, .int .u8 a0_2, .int .u8 a0_3, .int .u8 a0_4]) ?_ 4 _ rfl; (with_reducible repeat (first | refine blk_drewN ?_ _ | refine blk_drew ?_ | refine blk_alloc ?_ _)); refine blk_put (cs := #[.int .u16 a0_0, .int .u8 a0_1, .int .u8 a0_2, .int .u8 a0_3, .int .u8 a0_4]) ?_ 1 _ rfl; (with_reducible repeat (first | refine blk_drewN ?_ _ | refine blk_drew ?_ | refine blk_alloc ?_ _)); exact BK184.out⟩, ⟨by (with_reducible repeat (first | refine blk_drewN ?_ _ | refine blk_drew ?_ | refine blk_alloc ?_ _)); refine blk_far ?_ NB185_184.out _; (with_reducible repeat (first | refine blk_drewN ?_ _ | refine blk_drew ?_ | refine blk_alloc ?_ _)); refine blk_far ?_ NB185_184.out _; (with_reducible repeat (first | refine blk_drewN ?_ _ | refine blk_drew ?_ | refine blk_alloc ?_ _)); exact BK185.out⟩, ⟨by repeat (first | (with_reducible first | exact HB.out | apply below_alloc | apply pw_below_drewN | apply below_drew1 | refine below_set ?_ GE184.out | refine below_set ?_ GE185.out) | exact HB.out)⟩⟩
          · rw [if_neg c21] at H
            have c21b0 : (a0_4 == 1) = false := beq_eq_false_iff_ne.mpr c21
            have c21b1 : (a0_4 != 1) = true := bne_iff_ne.mpr c21
            have H' := Aside0.mk H
            clear H
            have hnb24 := NB184_185.out
            have hnc24 := NB185_184.out
            have hcz25_0 : w10.cell? ⟨gb184, 0, none⟩ = some (.int .u16 a0_0) := (blk_cell BK184.out 0).trans rfl
            have hcz25_1 : w10.cell? ⟨gb184, 1, none⟩ = some (.int .u8 a0_1) := (blk_cell BK184.out 1).trans rfl
            have hcz25_2 : w10.cell? ⟨gb184, 2, none⟩ = some (.int .u8 a0_2) := (blk_cell BK184.out 2).trans rfl
            have hcz25_3 : w10.cell? ⟨gb184, 3, none⟩ = some (.int .u8 a0_3) := (blk_cell BK184.out 3).trans rfl
            have hcz25_4 : w10.cell? ⟨gb184, 4, none⟩ = some (.int .u8 a0_4) := (blk_cell BK184.out 4).trans rfl
            have hfz25_0 := blk_frozen BK184.out 0
            have hfz25_1 := blk_frozen BK184.out 1
            have hfz25_2 := blk_frozen BK184.out 2
            have hfz25_3 := blk_frozen BK184.out 3
            have hfz25_4 := blk_frozen BK184.out 4
            go_wp2
            go_meet
            case rel => exact ⟨_, (a0_0), (a2), (a0_2), (a0_3), (a0_4), H', ⟨by first | omega | exact Nat.le_refl _⟩, ⟨by (with_reducible repeat (first | refine blk_drewN ?_ _ | refine blk_drew ?_ | refine blk_alloc ?_ _)); refine blk_put (cs := #[.int .u16 a0_0, .int .u8 a0_1, .int .u8 a0_2, .int .u8 a0_3, .int .u8 a0_4]) ?_ 1 _ rfl; (with_reducible repeat (first | refine blk_drewN ?_ _ | refine blk_drew ?_ | refine blk_alloc ?_ _)); exact BK184.out⟩, ⟨by (with_reducible repeat (first | refine blk_drewN ?_ _ | refine blk_drew ?_ | refine blk_alloc ?_ _)); refine blk_far ?_ NB185_184.out _; (with_reducible repeat (first | refine blk_drewN ?_ _ | refine blk_drew ?_ | refine blk_alloc ?_ _)); exact BK185.out⟩, ⟨by repeat (first | (with_reducible first | exact HB.out | apply below_alloc | apply pw_below_drewN | apply below_drew1 | refine below_set ?_ GE184.out | refine below_set ?_ GE185.out) | exact HB.out)⟩⟩
      · rw [if_neg c14] at H
        have c14b0 : (a1 == 65285) = false := beq_eq_false_iff_ne.mpr c14
        have c14b1 : (a1 != 65285) = true := bne_iff_ne.mpr c14
        by_cases c26 : a1 = 65286
        · rw [if_pos c26] at H
          have c26b0 : (a1 == 65286) = true := beq_iff_eq.mpr c26
          have c26b1 : (a1 != 65286) = false := bne_eq_false_iff_eq.mpr c26
          clear c26
          by_cases c27 : a0_4 = 2
          · rw [if_pos c27] at H
            have c27b0 : (a0_4 == 2) = true := beq_iff_eq.mpr c27
            have c27b1 : (a0_4 != 2) = false := bne_eq_false_iff_eq.mpr c27
            clear c27
            have H' := Aside0.mk H
            clear H
            have hnb28 := NB184_185.out
            have hnc28 := NB185_184.out
            have hcz29_0 : w10.cell? ⟨gb184, 0, none⟩ = some (.int .u16 a0_0) := (blk_cell BK184.out 0).trans rfl
            have hcz29_1 : w10.cell? ⟨gb184, 1, none⟩ = some (.int .u8 a0_1) := (blk_cell BK184.out 1).trans rfl
            have hcz29_2 : w10.cell? ⟨gb184, 2, none⟩ = some (.int .u8 a0_2) := (blk_cell BK184.out 2).trans rfl
            have hcz29_3 : w10.cell? ⟨gb184, 3, none⟩ = some (.int .u8 a0_3) := (blk_cell BK184.out 3).trans rfl
            have hcz29_4 : w10.cell? ⟨gb184, 4, none⟩ = some (.int .u8 a0_4) := (blk_cell BK184.out 4).trans rfl
            have hfz29_0 := blk_frozen BK184.out 0
            have hfz29_1 := blk_frozen BK184.out 1
            have hfz29_2 := blk_frozen BK184.out 2
            have hfz29_3 := blk_frozen BK184.out 3
            have hfz29_4 := blk_frozen BK184.out 4
            go_wp2
            go_meet
            case rel => exact ⟨_, (a0_0), (a2), (a2), (a0_3), (a0_4), H', ⟨by first | omega | exact Nat.le_refl _⟩, ⟨by (with_reducible repeat (first | refine blk_drewN ?_ _ | refine blk_drew ?_ | refine blk_alloc ?_ _)); refine blk_put (cs := #[.int .u16 a0_0, .int .u8 a0_1, .int .u8 a2, .int .u8 a0_3, .int .u8 a0_4]) ?_ 1 _ rfl; (with_reducible repeat (first | refine blk_drewN ?_ _ | refine blk_drew ?_ | refine blk_alloc ?_ _)); refine blk_put (cs := #[.int .u16 a0_0, .int .u8 a0_1, .int .u8 a0_2, .int .u8 a0_3, .int .u8 a0_4]) ?_ 2 _ rfl; (with_reducible repeat (first | refine blk_drewN ?_ _ | refine blk_drew ?_ | refine blk_alloc ?_ _)); exact BK184.out⟩, ⟨by (with_reducible repeat (first | refine blk_drewN ?_ _ | refine blk_drew ?_ | refine blk_alloc ?_ _)); refine blk_far ?_ NB185_184.out _; (with_reducible repeat (first | refine blk_drewN ?_ _ | refine blk_drew ?_ | refine blk_alloc ?_ _)); refine blk_far ?_ NB185_184.out _; (with_reducible repeat (first | refine blk_drewN ?_ _ | refine blk_drew ?_ | refine blk_alloc ?_ _)); exact BK185.out⟩, ⟨by repeat (first | (with_reducible first | exact HB.out | apply below_alloc | apply pw_below_drewN | apply below_drew1 | refine below_set ?_ GE184.out | refine below_set ?_ GE185.out) | exact HB.out)⟩⟩
          · rw [if_neg c27] at H
            have c27b0 : (a0_4 == 2) = false := beq_eq_false_iff_ne.mpr c27
            have c27b1 : (a0_4 != 2) = true := bne_iff_ne.mpr c27
            have H' := Aside0.mk H
            clear H
            have hnb30 := NB184_185.out
            have hnc30 := NB185_184.out
            have hcz31_0 : w10.cell? ⟨gb184, 0, none⟩ = some (.int .u16 a0_0) := (blk_cell BK184.out 0).trans rfl
            have hcz31_1 : w10.cell? ⟨gb184, 1, none⟩ = some (.int .u8 a0_1) := (blk_cell BK184.out 1).trans rfl
            have hcz31_2 : w10.cell? ⟨gb184, 2, none⟩ = some (.int .u8 a0_2) := (blk_cell BK184.out 2).trans rfl
            have hcz31_3 : w10.cell? ⟨gb184, 3, none⟩ = some (.int .u8 a0_3) := (blk_cell BK184.out 3).trans rfl
            have hcz31_4 : w10.cell? ⟨gb184, 4, none⟩ = some (.int .u8 a0_4) := (blk_cell BK184.out 4).trans rfl
            have hfz31_0 := blk_frozen BK184.out 0
            have hfz31_1 := blk_frozen BK184.out 1
            have hfz31_2 := blk_frozen BK184.out 2
            have hfz31_3 := blk_frozen BK184.out 3
            have hfz31_4 := blk_frozen BK184.out 4
            go_wp2
            go_meet
            case rel => exact ⟨_, (a0_0), (a0_1), (a2), (a0_3), (a0_4), H', ⟨by first | omega | exact Nat.le_refl _⟩, ⟨by (with_reducible repeat (first | refine blk_drewN ?_ _ | refine blk_drew ?_ | refine blk_alloc ?_ _)); refine blk_put (cs := #[.int .u16 a0_0, .int .u8 a0_1, .int .u8 a0_2, .int .u8 a0_3, .int .u8 a0_4]) ?_ 2 _ rfl; (with_reducible repeat (first | refine blk_drewN ?_ _ | refine blk_drew ?_ | refine blk_alloc ?_ _)); exact BK184.out⟩, ⟨by (with_reducible repeat (first | refine blk_drewN ?_ _ | refine blk_drew ?_ | refine blk_alloc ?_ _)); refine blk_far ?_ NB185_184.out _; (with_reducible repeat (first | refine blk_drewN ?_ _ | refine blk_drew ?_ | refine blk_alloc ?_ _)); exact BK185.out⟩, ⟨by repeat (first | (with_reducible first | exact HB.out | apply below_alloc | apply pw_below_drewN | apply below_drew1 | refine below_set ?_ GE184.out | refine below_set ?_ GE185.out) | exact HB.out)⟩⟩
        · rw [if_neg c26] at H
          have c26b0 : (a1 == 65286) = false := beq_eq_false_iff_ne.mpr c26
          have c26b1 : (a1 != 65286) = true := bne_iff_ne.mpr c26
          by_cases c32 : a1 = 65287
          · rw [if_pos c32] at H
            have c32b0 : (a1 == 65287) = true := beq_iff_eq.mpr c32
            have c32b1 : (a1 != 65287) = false := bne_eq_false_iff_eq.mpr c32
            clear c32
            have H' := Aside0.mk H
            clear H
            have hnb33 := NB184_185.out
            have hnc33 := NB185_184.out
            have hcz34_0 : w10.cell? ⟨gb184, 0, none⟩ = some (.int .u16 a0_0) := (blk_cell BK184.out 0).trans rfl
            have hcz34_1 : w10.cell? ⟨gb184, 1, none⟩ = some (.int .u8 a0_1) := (blk_cell BK184.out 1).trans rfl
            have hcz34_2 : w10.cell? ⟨gb184, 2, none⟩ = some (.int .u8 a0_2) := (blk_cell BK184.out 2).trans rfl
            have hcz34_3 : w10.cell? ⟨gb184, 3, none⟩ = some (.int .u8 a0_3) := (blk_cell BK184.out 3).trans rfl
            have hcz34_4 : w10.cell? ⟨gb184, 4, none⟩ = some (.int .u8 a0_4) := (blk_cell BK184.out 4).trans rfl
            have hfz34_0 := blk_frozen BK184.out 0
            have hfz34_1 := blk_frozen BK184.out 1
            have hfz34_2 := blk_frozen BK184.out 2
            have hfz34_3 := blk_frozen BK184.out 3
            have hfz34_4 := blk_frozen BK184.out 4
            go_wp2
            go_meet
            case rel => exact ⟨_, (a0_0), (a0_1), (a0_2), (Int.tmod a2 8), (a0_4), H', ⟨by first | omega | exact Nat.le_refl _⟩, ⟨by (with_reducible repeat (first | refine blk_drewN ?_ _ | refine blk_drew ?_ | refine blk_alloc ?_ _)); refine blk_put (cs := #[.int .u16 a0_0, .int .u8 a0_1, .int .u8 a0_2, .int .u8 a0_3, .int .u8 a0_4]) ?_ 3 _ rfl; (with_reducible repeat (first | refine blk_drewN ?_ _ | refine blk_drew ?_ | refine blk_alloc ?_ _)); exact BK184.out⟩, ⟨by (with_reducible repeat (first | refine blk_drewN ?_ _ | refine blk_drew ?_ | refine blk_alloc ?_ _)); refine blk_far ?_ NB185_184.out _; (with_reducible repeat (first | refine blk_drewN ?_ _ | refine blk_drew ?_ | refine blk_alloc ?_ _)); exact BK185.out⟩, ⟨by repeat (first | (with_reducible first | exact HB.out | apply below_alloc | apply pw_below_drewN | apply below_drew1 | refine below_set ?_ GE184.out | refine below_set ?_ GE185.out) | exact HB.out)⟩⟩
          · rw [if_neg c32] at H
            have c32b0 : (a1 == 65287) = false := beq_eq_false_iff_ne.mpr c32
            have c32b1 : (a1 != 65287) = true := bne_iff_ne.mpr c32
            have H' := Aside0.mk H
            clear H
            go_wp2
            go_meet
            case rel => exact ⟨_, (a0_0), (a0_1), (a0_2), (a0_3), (a0_4), H', ⟨by first | omega | exact Nat.le_refl _⟩, ⟨by (with_reducible repeat (first | refine blk_drewN ?_ _ | refine blk_drew ?_ | refine blk_alloc ?_ _)); exact BK184.out⟩, ⟨by (with_reducible repeat (first | refine blk_drewN ?_ _ | refine blk_drew ?_ | refine blk_alloc ?_ _)); exact BK185.out⟩, ⟨by repeat (first | (with_reducible first | exact HB.out | apply below_alloc | apply pw_below_drewN | apply below_drew1 | refine below_set ?_ GE184.out | refine below_set ?_ GE185.out) | exact HB.out)⟩⟩
  case rest =>
    clear HC5
    try clear c1
    try clear c2
    try clear p2
    try clear c3
    try clear c8
    try clear c11
    try clear c11b0
    try clear c11b1
    try clear c12
    try clear c14
    try clear c14b0
    try clear c14b1
    try clear c15
    try clear c15b0
    try clear c15b1
    try clear c16
    try clear c16b0
    try clear c16b1
    try clear c17
    try clear c19
    try clear c21
    try clear c21b0
    try clear c21b1
    try clear c22
    try clear c24
    try clear c26
    try clear c26b0
    try clear c26b1
    try clear c27
    try clear c27b0
    try clear c27b1
    try clear c28
    try clear c30
    try clear c32
    try clear c32b0
    try clear c32b1
    try clear c33
    try clear hcz13_0
    try clear hcz13_1
    try clear hcz13_2
    try clear hcz13_3
    try clear hcz13_4
    try clear hcz18_0
    try clear hcz18_1
    try clear hcz18_2
    try clear hcz18_3
    try clear hcz18_4
    try clear hcz20_0
    try clear hcz20_1
    try clear hcz20_2
    try clear hcz20_3
    try clear hcz20_4
    try clear hcz23_0
    try clear hcz23_1
    try clear hcz23_2
    try clear hcz23_3
    try clear hcz23_4
    try clear hcz25_0
    try clear hcz25_1
    try clear hcz25_2
    try clear hcz25_3
    try clear hcz25_4
    try clear hcz29_0
    try clear hcz29_1
    try clear hcz29_2
    try clear hcz29_3
    try clear hcz29_4
    try clear hcz31_0
    try clear hcz31_1
    try clear hcz31_2
    try clear hcz31_3
    try clear hcz31_4
    try clear hcz34_0
    try clear hcz34_1
    try clear hcz34_2
    try clear hcz34_3
    try clear hcz34_4
    try clear hcz9_0
    try clear hcz9_1
    try clear hcz9_2
    try clear hcz9_3
    try clear hcz9_4
    try clear hfz13_0
    try clear hfz13_1
    try clear hfz13_2
    try clear hfz13_3
    try clear hfz13_4
    try clear hfz18_0
    try clear hfz18_1
    try clear hfz18_2
    try clear hfz18_3
    try clear hfz18_4
    try clear hfz20_0
    try clear hfz20_1
    try clear hfz20_2
    try clear hfz20_3
    try clear hfz20_4
    try clear hfz23_0
    try clear hfz23_1
    try clear hfz23_2
    try clear hfz23_3
    try clear hfz23_4
    try clear hfz25_0
    try clear hfz25_1
    try clear hfz25_2
    try clear hfz25_3
    try clear hfz25_4
    try clear hfz29_0
    try clear hfz29_1
    try clear hfz29_2
    try clear hfz29_3
    try clear hfz29_4
    try clear hfz31_0
    try clear hfz31_1
    try clear hfz31_2
    try clear hfz31_3
    try clear hfz31_4
    try clear hfz34_0
    try clear hfz34_1
    try clear hfz34_2
    try clear hfz34_3
    try clear hfz34_4
    try clear hfz9_0
    try clear hfz9_1
    try clear hfz9_2
    try clear hfz9_3
    try clear hfz9_4
    obtain ⟨kq, x185000_4, x185001_4, x185002_4, x185003_4, x185004_4, HA, HJ4, BK184, BK185, HB⟩ := hcut
    cases kq with
    | zero => exact absurd HA.out (by simp [whirligigref11_Write.j0])
    | succ kj4 =>
      have H := HA.out
      clear HA
      simp only [whirligigref11_Write.j0] at H
      by_cases c35 : a1 = 65284
      · rw [if_pos c35] at H
        have c35b0 : (a1 == 65284) = true := beq_iff_eq.mpr c35
        have c35b1 : (a1 != 65284) = false := bne_eq_false_iff_eq.mpr c35
        clear c35
        by_cases c36 : t186 = true
        · subst c36
          have H1 : ((whirligigref11_Hot.f kj4 x185000_4 x185001_4 x185002_4 x185003_4 x185004_4).bind fun t187 => (if t187 = true then (some (x185000_4, x185001_4, x185002_4, x185003_4, x185004_4)) else ((whirligigref11_count.f x185000_4 x185001_4 x185002_4 x185003_4 x185004_4).bind fun bt188 => (some (bt188.1, bt188.2.1, bt188.2.2.1, bt188.2.2.2.1, bt188.2.2.2.2))))) = some (r1, r2, r3, r4, r5) := by rw [if_pos rfl] at H; exact H
          clear H
          have H := H1
          clear H1
          replace H := Option.bind_eq_some_iff.mp H
          obtain ⟨t187, A370, H⟩ := H
          replace H : (if t187 = true then (some (x185000_4, x185001_4, x185002_4, x185003_4, x185004_4)) else ((whirligigref11_count.f x185000_4 x185001_4 x185002_4 x185003_4 x185004_4).bind fun bt188 => (some (bt188.1, bt188.2.1, bt188.2.2.1, bt188.2.2.2.1, bt188.2.2.2.2)))) = some (r1, r2, r3, r4, r5) := H
          have A37 := Aside0.mk A370
          clear A370
          by_cases c38 : t187 = true
          · subst c38
            have H1 : (some (x185000_4, x185001_4, x185002_4, x185003_4, x185004_4)) = some (r1, r2, r3, r4, r5) := by rw [if_pos rfl] at H; exact H
            clear H
            have H := H1
            clear H1
            simp only [Option.some.injEq, Prod.mk.injEq] at H
            obtain ⟨rfl, rfl, rfl, rfl, rfl⟩ := H
            have hnb39 := NB184_185.out
            have hnc39 := NB185_184.out
            have hcz40_0 : wc.cell? ⟨gb184, 0, none⟩ = some (.int .u16 x185000_4) := (blk_cell BK184.out 0).trans rfl
            have hcz40_1 : wc.cell? ⟨gb184, 1, none⟩ = some (.int .u8 x185001_4) := (blk_cell BK184.out 1).trans rfl
            have hcz40_2 : wc.cell? ⟨gb184, 2, none⟩ = some (.int .u8 x185002_4) := (blk_cell BK184.out 2).trans rfl
            have hcz40_3 : wc.cell? ⟨gb184, 3, none⟩ = some (.int .u8 x185003_4) := (blk_cell BK184.out 3).trans rfl
            have hcz40_4 : wc.cell? ⟨gb184, 4, none⟩ = some (.int .u8 x185004_4) := (blk_cell BK184.out 4).trans rfl
            have hfz40_0 := blk_frozen BK184.out 0
            have hfz40_1 := blk_frozen BK184.out 1
            have hfz40_2 := blk_frozen BK184.out 2
            have hfz40_3 := blk_frozen BK184.out 3
            have hfz40_4 := blk_frozen BK184.out 4
            go_wp2_with (first | (go_at_call 12; (with_reducible refine (whirligigref11_Hot.calls kj4 x185000_4 x185001_4 x185002_4 x185003_4 x185004_4 true _ A37.out).mono ?_); rintro e w41 ⟨rfl, hb⟩; have n0_ := Aside0.mk (blk_below (g := gb184) (o := .cells #[.int .u16 x185000_4, .int .u8 x185001_4, .int .u8 x185002_4, .int .u8 x185003_4, .int .u8 x185004_4] 24 (0, 0)) (by (with_reducible repeat (first | refine blk_drewN ?_ _ | refine blk_drew ?_ | refine blk_alloc ?_ _)); exact BK184.out) hb); have n1_ := Aside0.mk (blk_below (g := gb185) (o := .cells #[.int .u16 0, .int .u8 0, .int .u8 0, .int .u8 0, .int .u8 0] 24 (0, 0)) (by (with_reducible repeat (first | refine blk_drewN ?_ _ | refine blk_drew ?_ | refine blk_alloc ?_ _)); exact BK185.out) hb); have n2_ := Aside0.mk (below_step (by repeat (first | (with_reducible first | exact HB.out | apply below_alloc | apply pw_below_drewN | apply below_drew1 | refine below_set ?_ GE184.out | refine below_set ?_ GE185.out) | exact HB.out)) hb); clear BK184; clear BK185; clear HB; have BK184 := n0_; have BK185 := n1_; have HB := n2_; clear n0_ n1_ n2_; (try clear hb); (try clear hb2); (try clear hk); (try clear hi); have hcz42_0 : w41.cell? ⟨gb184, 0, none⟩ = some (.int .u16 x185000_4) := (blk_cell BK184.out 0).trans rfl; have hcz42_1 : w41.cell? ⟨gb184, 1, none⟩ = some (.int .u8 x185001_4) := (blk_cell BK184.out 1).trans rfl; have hcz42_2 : w41.cell? ⟨gb184, 2, none⟩ = some (.int .u8 x185002_4) := (blk_cell BK184.out 2).trans rfl; have hcz42_3 : w41.cell? ⟨gb184, 3, none⟩ = some (.int .u8 x185003_4) := (blk_cell BK184.out 3).trans rfl; have hcz42_4 : w41.cell? ⟨gb184, 4, none⟩ = some (.int .u8 x185004_4) := (blk_cell BK184.out 4).trans rfl; have hfz42_0 := blk_frozen BK184.out 0; have hfz42_1 := blk_frozen BK184.out 1; have hfz42_2 := blk_frozen BK184.out 2; have hfz42_3 := blk_frozen BK184.out 3; have hfz42_4 := blk_frozen BK184.out 4; have hcz43_0 : w41.cell? ⟨gb185, 0, none⟩ = some (.int .u16 0) := (blk_cell BK185.out 0).trans rfl; have hcz43_1 : w41.cell? ⟨gb185, 1, none⟩ = some (.int .u8 0) := (blk_cell BK185.out 1).trans rfl; have hcz43_2 : w41.cell? ⟨gb185, 2, none⟩ = some (.int .u8 0) := (blk_cell BK185.out 2).trans rfl; have hcz43_3 : w41.cell? ⟨gb185, 3, none⟩ = some (.int .u8 0) := (blk_cell BK185.out 3).trans rfl; have hcz43_4 : w41.cell? ⟨gb185, 4, none⟩ = some (.int .u8 0) := (blk_cell BK185.out 4).trans rfl; have hfz43_0 := blk_frozen BK185.out 0; have hfz43_1 := blk_frozen BK185.out 1; have hfz43_2 := blk_frozen BK185.out 2; have hfz43_3 := blk_frozen BK185.out 3; have hfz43_4 := blk_frozen BK185.out 4))
            refine bodyPost_ret (results_cell_row rfl _ _ gb185 24 #[.int .u16 x185000_4, .int .u8 x185001_4, .int .u8 x185002_4, .int .u8 x185003_4, .int .u8 x185004_4] (0, 0) _ rfl (by (with_reducible repeat (first | refine blk_drewN ?_ _ | refine blk_drew ?_ | refine blk_alloc ?_ _)); refine blk_put (cs := #[.int .u16 x185000_4, .int .u8 x185001_4, .int .u8 x185002_4, .int .u8 x185003_4, .int .u8 0]) ?_ 4 _ rfl; (with_reducible repeat (first | refine blk_drewN ?_ _ | refine blk_drew ?_ | refine blk_alloc ?_ _)); refine blk_put (cs := #[.int .u16 x185000_4, .int .u8 x185001_4, .int .u8 x185002_4, .int .u8 0, .int .u8 0]) ?_ 3 _ rfl; (with_reducible repeat (first | refine blk_drewN ?_ _ | refine blk_drew ?_ | refine blk_alloc ?_ _)); refine blk_put (cs := #[.int .u16 x185000_4, .int .u8 x185001_4, .int .u8 0, .int .u8 0, .int .u8 0]) ?_ 2 _ rfl; (with_reducible repeat (first | refine blk_drewN ?_ _ | refine blk_drew ?_ | refine blk_alloc ?_ _)); refine blk_put (cs := #[.int .u16 x185000_4, .int .u8 0, .int .u8 0, .int .u8 0, .int .u8 0]) ?_ 1 _ rfl; (with_reducible repeat (first | refine blk_drewN ?_ _ | refine blk_drew ?_ | refine blk_alloc ?_ _)); refine blk_put (cs := #[.int .u16 0, .int .u8 0, .int .u8 0, .int .u8 0, .int .u8 0]) ?_ 0 _ rfl; (with_reducible repeat (first | refine blk_drewN ?_ _ | refine blk_drew ?_ | refine blk_alloc ?_ _)); exact BK185.out) Try.underlying24 rfl (by kernel_rfl)) rfl ?_
            exact ⟨by first | rfl | (simp [errW_none, errW_some] <;> rfl) | (simp [*, errW_none, errW_some] <;> rfl), by repeat (first | (with_reducible first | exact HB.out | apply below_alloc | apply pw_below_drewN | apply below_drew1 | refine below_set ?_ GE184.out | refine below_set ?_ GE185.out) | exact HB.out)⟩
          · replace c38 := Bool.eq_false_iff.mpr c38
            subst c38
            have H1 : ((whirligigref11_count.f x185000_4 x185001_4 x185002_4 x185003_4 x185004_4).bind fun bt188 => (some (bt188.1, bt188.2.1, bt188.2.2.1, bt188.2.2.2.1, bt188.2.2.2.2))) = some (r1, r2, r3, r4, r5) := by rw [if_neg (show ¬ (false = true) by decide)] at H; exact H
            clear H
            have H := H1
            clear H1
            replace H := Option.bind_eq_some_iff.mp H
            obtain ⟨⟨t188, t189, t190, t191, t192⟩, A440, H⟩ := H
            replace H : (some (t188, t189, t190, t191, t192)) = some (r1, r2, r3, r4, r5) := H
            have A44 := Aside0.mk A440
            clear A440
            simp only [Option.some.injEq, Prod.mk.injEq] at H
            obtain ⟨rfl, rfl, rfl, rfl, rfl⟩ := H
            have hnb45 := NB184_185.out
            have hnc45 := NB185_184.out
            have hcz46_0 : wc.cell? ⟨gb184, 0, none⟩ = some (.int .u16 x185000_4) := (blk_cell BK184.out 0).trans rfl
            have hcz46_1 : wc.cell? ⟨gb184, 1, none⟩ = some (.int .u8 x185001_4) := (blk_cell BK184.out 1).trans rfl
            have hcz46_2 : wc.cell? ⟨gb184, 2, none⟩ = some (.int .u8 x185002_4) := (blk_cell BK184.out 2).trans rfl
            have hcz46_3 : wc.cell? ⟨gb184, 3, none⟩ = some (.int .u8 x185003_4) := (blk_cell BK184.out 3).trans rfl
            have hcz46_4 : wc.cell? ⟨gb184, 4, none⟩ = some (.int .u8 x185004_4) := (blk_cell BK184.out 4).trans rfl
            have hfz46_0 := blk_frozen BK184.out 0
            have hfz46_1 := blk_frozen BK184.out 1
            have hfz46_2 := blk_frozen BK184.out 2
            have hfz46_3 := blk_frozen BK184.out 3
            have hfz46_4 := blk_frozen BK184.out 4
            go_wp2_with (first | (go_at_call 12; (with_reducible refine (whirligigref11_Hot.calls kj4 x185000_4 x185001_4 x185002_4 x185003_4 x185004_4 false _ A37.out).mono ?_); rintro e w47 ⟨rfl, hb⟩; have n0_ := Aside0.mk (blk_below (g := gb184) (o := .cells #[.int .u16 x185000_4, .int .u8 x185001_4, .int .u8 x185002_4, .int .u8 x185003_4, .int .u8 x185004_4] 24 (0, 0)) (by (with_reducible repeat (first | refine blk_drewN ?_ _ | refine blk_drew ?_ | refine blk_alloc ?_ _)); exact BK184.out) hb); have n1_ := Aside0.mk (blk_below (g := gb185) (o := .cells #[.int .u16 0, .int .u8 0, .int .u8 0, .int .u8 0, .int .u8 0] 24 (0, 0)) (by (with_reducible repeat (first | refine blk_drewN ?_ _ | refine blk_drew ?_ | refine blk_alloc ?_ _)); exact BK185.out) hb); have n2_ := Aside0.mk (below_step (by repeat (first | (with_reducible first | exact HB.out | apply below_alloc | apply pw_below_drewN | apply below_drew1 | refine below_set ?_ GE184.out | refine below_set ?_ GE185.out) | exact HB.out)) hb); clear BK184; clear BK185; clear HB; have BK184 := n0_; have BK185 := n1_; have HB := n2_; clear n0_ n1_ n2_; (try clear hb); (try clear hb2); (try clear hk); (try clear hi); have hcz48_0 : w47.cell? ⟨gb184, 0, none⟩ = some (.int .u16 x185000_4) := (blk_cell BK184.out 0).trans rfl; have hcz48_1 : w47.cell? ⟨gb184, 1, none⟩ = some (.int .u8 x185001_4) := (blk_cell BK184.out 1).trans rfl; have hcz48_2 : w47.cell? ⟨gb184, 2, none⟩ = some (.int .u8 x185002_4) := (blk_cell BK184.out 2).trans rfl; have hcz48_3 : w47.cell? ⟨gb184, 3, none⟩ = some (.int .u8 x185003_4) := (blk_cell BK184.out 3).trans rfl; have hcz48_4 : w47.cell? ⟨gb184, 4, none⟩ = some (.int .u8 x185004_4) := (blk_cell BK184.out 4).trans rfl; have hfz48_0 := blk_frozen BK184.out 0; have hfz48_1 := blk_frozen BK184.out 1; have hfz48_2 := blk_frozen BK184.out 2; have hfz48_3 := blk_frozen BK184.out 3; have hfz48_4 := blk_frozen BK184.out 4) | ((with_reducible refine gate_callee (f := 24) rfl ?_); refine goesL_ (some 54) rfl rfl Try.func24 (by kernel_rfl) rfl #[.agg #[.int .u16 x185000_4, .int .u8 x185001_4, .int .u8 x185002_4, .int .u8 x185003_4, .int .u8 x185004_4]] rfl (by (try simp only [List.map_toArray, List.map_cons, List.map_nil]); first | done | rfl | (simp only [List.length_drop, List.length_take]; rfl)) ?_; (with_reducible refine (whirligigref11_count.calls x185000_4 x185001_4 x185002_4 x185003_4 x185004_4 t188 t189 t190 t191 t192 _ A44.out).mono ?_); rintro e w49 ⟨rfl, hb⟩; refine ⟨_, rfl, ?_⟩; have n0_ := Aside0.mk (blk_below (g := gb184) (o := .cells #[.int .u16 x185000_4, .int .u8 x185001_4, .int .u8 x185002_4, .int .u8 x185003_4, .int .u8 x185004_4] 24 (0, 0)) (by (with_reducible repeat (first | refine blk_drewN ?_ _ | refine blk_drew ?_ | refine blk_alloc ?_ _)); exact BK184.out) hb); have n1_ := Aside0.mk (blk_below (g := gb185) (o := .cells #[.int .u16 0, .int .u8 0, .int .u8 0, .int .u8 0, .int .u8 0] 24 (0, 0)) (by (with_reducible repeat (first | refine blk_drewN ?_ _ | refine blk_drew ?_ | refine blk_alloc ?_ _)); exact BK185.out) hb); have n2_ := Aside0.mk (below_step (by repeat (first | (with_reducible first | exact HB.out | apply below_alloc | apply pw_below_drewN | apply below_drew1 | refine below_set ?_ GE184.out | refine below_set ?_ GE185.out) | exact HB.out)) hb); clear BK184; clear BK185; clear HB; have BK184 := n0_; have BK185 := n1_; have HB := n2_; clear n0_ n1_ n2_; (try clear hb); (try clear hb2); (try clear hk); (try clear hi); have hcz50_0 : w49.cell? ⟨gb184, 0, none⟩ = some (.int .u16 x185000_4) := (blk_cell BK184.out 0).trans rfl; have hcz50_1 : w49.cell? ⟨gb184, 1, none⟩ = some (.int .u8 x185001_4) := (blk_cell BK184.out 1).trans rfl; have hcz50_2 : w49.cell? ⟨gb184, 2, none⟩ = some (.int .u8 x185002_4) := (blk_cell BK184.out 2).trans rfl; have hcz50_3 : w49.cell? ⟨gb184, 3, none⟩ = some (.int .u8 x185003_4) := (blk_cell BK184.out 3).trans rfl; have hcz50_4 : w49.cell? ⟨gb184, 4, none⟩ = some (.int .u8 x185004_4) := (blk_cell BK184.out 4).trans rfl; have hfz50_0 := blk_frozen BK184.out 0; have hfz50_1 := blk_frozen BK184.out 1; have hfz50_2 := blk_frozen BK184.out 2; have hfz50_3 := blk_frozen BK184.out 3; have hfz50_4 := blk_frozen BK184.out 4; have hcz51_0 : w49.cell? ⟨gb185, 0, none⟩ = some (.int .u16 0) := (blk_cell BK185.out 0).trans rfl; have hcz51_1 : w49.cell? ⟨gb185, 1, none⟩ = some (.int .u8 0) := (blk_cell BK185.out 1).trans rfl; have hcz51_2 : w49.cell? ⟨gb185, 2, none⟩ = some (.int .u8 0) := (blk_cell BK185.out 2).trans rfl; have hcz51_3 : w49.cell? ⟨gb185, 3, none⟩ = some (.int .u8 0) := (blk_cell BK185.out 3).trans rfl; have hcz51_4 : w49.cell? ⟨gb185, 4, none⟩ = some (.int .u8 0) := (blk_cell BK185.out 4).trans rfl; have hfz51_0 := blk_frozen BK185.out 0; have hfz51_1 := blk_frozen BK185.out 1; have hfz51_2 := blk_frozen BK185.out 2; have hfz51_3 := blk_frozen BK185.out 3; have hfz51_4 := blk_frozen BK185.out 4))
            refine bodyPost_ret (results_cell_row rfl _ _ gb185 24 #[.int .u16 t188, .int .u8 t189, .int .u8 t190, .int .u8 t191, .int .u8 t192] (0, 0) _ rfl (by (with_reducible repeat (first | refine blk_drewN ?_ _ | refine blk_drew ?_ | refine blk_alloc ?_ _)); refine blk_put (cs := #[.int .u16 t188, .int .u8 t189, .int .u8 t190, .int .u8 t191, .int .u8 0]) ?_ 4 _ rfl; (with_reducible repeat (first | refine blk_drewN ?_ _ | refine blk_drew ?_ | refine blk_alloc ?_ _)); refine blk_put (cs := #[.int .u16 t188, .int .u8 t189, .int .u8 t190, .int .u8 0, .int .u8 0]) ?_ 3 _ rfl; (with_reducible repeat (first | refine blk_drewN ?_ _ | refine blk_drew ?_ | refine blk_alloc ?_ _)); refine blk_put (cs := #[.int .u16 t188, .int .u8 t189, .int .u8 0, .int .u8 0, .int .u8 0]) ?_ 2 _ rfl; (with_reducible repeat (first | refine blk_drewN ?_ _ | refine blk_drew ?_ | refine blk_alloc ?_ _)); refine blk_put (cs := #[.int .u16 t188, .int .u8 0, .int .u8 0, .int .u8 0, .int .u8 0]) ?_ 1 _ rfl; (with_reducible repeat (first | refine blk_drewN ?_ _ | refine blk_drew ?_ | refine blk_alloc ?_ _)); refine blk_put (cs := #[.int .u16 0, .int .u8 0, .int .u8 0, .int .u8 0, .int .u8 0]) ?_ 0 _ rfl; (with_reducible repeat (first | refine blk_drewN ?_ _ | refine blk_drew ?_ | refine blk_alloc ?_ _)); refine blk_far ?_ NB185_184.out _; (with_reducible repeat (first | refine blk_drewN ?_ _ | refine blk_drew ?_ | refine blk_alloc ?_ _)); refine blk_far ?_ NB185_184.out _; (with_reducible repeat (first | refine blk_drewN ?_ _ | refine blk_drew ?_ | refine blk_alloc ?_ _)); refine blk_far ?_ NB185_184.out _; (with_reducible repeat (first | refine blk_drewN ?_ _ | refine blk_drew ?_ | refine blk_alloc ?_ _)); refine blk_far ?_ NB185_184.out _; (with_reducible repeat (first | refine blk_drewN ?_ _ | refine blk_drew ?_ | refine blk_alloc ?_ _)); refine blk_far ?_ NB185_184.out _; (with_reducible repeat (first | refine blk_drewN ?_ _ | refine blk_drew ?_ | refine blk_alloc ?_ _)); exact BK185.out) Try.underlying24 rfl (by kernel_rfl)) rfl ?_
            exact ⟨by first | rfl | (simp [errW_none, errW_some] <;> rfl) | (simp [*, errW_none, errW_some] <;> rfl), by repeat (first | (with_reducible first | exact HB.out | apply below_alloc | apply pw_below_drewN | apply below_drew1 | refine below_set ?_ GE184.out | refine below_set ?_ GE185.out) | exact HB.out)⟩
        · replace c36 := Bool.eq_false_iff.mpr c36
          subst c36
          have H1 : (some (x185000_4, x185001_4, x185002_4, x185003_4, x185004_4)) = some (r1, r2, r3, r4, r5) := by rw [if_neg (show ¬ (false = true) by decide)] at H; exact H
          clear H
          have H := H1
          clear H1
          simp only [Option.some.injEq, Prod.mk.injEq] at H
          obtain ⟨rfl, rfl, rfl, rfl, rfl⟩ := H
          have hnb52 := NB184_185.out
          have hnc52 := NB185_184.out
          have hcz53_0 : wc.cell? ⟨gb184, 0, none⟩ = some (.int .u16 x185000_4) := (blk_cell BK184.out 0).trans rfl
          have hcz53_1 : wc.cell? ⟨gb184, 1, none⟩ = some (.int .u8 x185001_4) := (blk_cell BK184.out 1).trans rfl
          have hcz53_2 : wc.cell? ⟨gb184, 2, none⟩ = some (.int .u8 x185002_4) := (blk_cell BK184.out 2).trans rfl
          have hcz53_3 : wc.cell? ⟨gb184, 3, none⟩ = some (.int .u8 x185003_4) := (blk_cell BK184.out 3).trans rfl
          have hcz53_4 : wc.cell? ⟨gb184, 4, none⟩ = some (.int .u8 x185004_4) := (blk_cell BK184.out 4).trans rfl
          have hfz53_0 := blk_frozen BK184.out 0
          have hfz53_1 := blk_frozen BK184.out 1
          have hfz53_2 := blk_frozen BK184.out 2
          have hfz53_3 := blk_frozen BK184.out 3
          have hfz53_4 := blk_frozen BK184.out 4
          have hcz54_0 : wc.cell? ⟨gb185, 0, none⟩ = some (.int .u16 0) := (blk_cell BK185.out 0).trans rfl
          have hcz54_1 : wc.cell? ⟨gb185, 1, none⟩ = some (.int .u8 0) := (blk_cell BK185.out 1).trans rfl
          have hcz54_2 : wc.cell? ⟨gb185, 2, none⟩ = some (.int .u8 0) := (blk_cell BK185.out 2).trans rfl
          have hcz54_3 : wc.cell? ⟨gb185, 3, none⟩ = some (.int .u8 0) := (blk_cell BK185.out 3).trans rfl
          have hcz54_4 : wc.cell? ⟨gb185, 4, none⟩ = some (.int .u8 0) := (blk_cell BK185.out 4).trans rfl
          have hfz54_0 := blk_frozen BK185.out 0
          have hfz54_1 := blk_frozen BK185.out 1
          have hfz54_2 := blk_frozen BK185.out 2
          have hfz54_3 := blk_frozen BK185.out 3
          have hfz54_4 := blk_frozen BK185.out 4
          go_wp2
          refine bodyPost_ret (results_cell_row rfl _ _ gb185 24 #[.int .u16 x185000_4, .int .u8 x185001_4, .int .u8 x185002_4, .int .u8 x185003_4, .int .u8 x185004_4] (0, 0) _ rfl (by (with_reducible repeat (first | refine blk_drewN ?_ _ | refine blk_drew ?_ | refine blk_alloc ?_ _)); refine blk_put (cs := #[.int .u16 x185000_4, .int .u8 x185001_4, .int .u8 x185002_4, .int .u8 x185003_4, .int .u8 0]) ?_ 4 _ rfl; (with_reducible repeat (first | refine blk_drewN ?_ _ | refine blk_drew ?_ | refine blk_alloc ?_ _)); refine blk_put (cs := #[.int .u16 x185000_4, .int .u8 x185001_4, .int .u8 x185002_4, .int .u8 0, .int .u8 0]) ?_ 3 _ rfl; (with_reducible repeat (first | refine blk_drewN ?_ _ | refine blk_drew ?_ | refine blk_alloc ?_ _)); refine blk_put (cs := #[.int .u16 x185000_4, .int .u8 x185001_4, .int .u8 0, .int .u8 0, .int .u8 0]) ?_ 2 _ rfl; (with_reducible repeat (first | refine blk_drewN ?_ _ | refine blk_drew ?_ | refine blk_alloc ?_ _)); refine blk_put (cs := #[.int .u16 x185000_4, .int .u8 0, .int .u8 0, .int .u8 0, .int .u8 0]) ?_ 1 _ rfl; (with_reducible repeat (first | refine blk_drewN ?_ _ | refine blk_drew ?_ | refine blk_alloc ?_ _)); refine blk_put (cs := #[.int .u16 0, .int .u8 0, .int .u8 0, .int .u8 0, .int .u8 0]) ?_ 0 _ rfl; (with_reducible repeat (first | refine blk_drewN ?_ _ | refine blk_drew ?_ | refine blk_alloc ?_ _)); exact BK185.out) Try.underlying24 rfl (by kernel_rfl)) rfl ?_
          exact ⟨by first | rfl | (simp [errW_none, errW_some] <;> rfl) | (simp [*, errW_none, errW_some] <;> rfl), by repeat (first | (with_reducible first | exact HB.out | apply below_alloc | apply pw_below_drewN | apply below_drew1 | refine below_set ?_ GE184.out | refine below_set ?_ GE185.out) | exact HB.out)⟩
      · rw [if_neg c35] at H
        have c35b0 : (a1 == 65284) = false := beq_eq_false_iff_ne.mpr c35
        have c35b1 : (a1 != 65284) = true := bne_iff_ne.mpr c35
        by_cases c55 : a1 = 65287
        · rw [if_pos c55] at H
          have c55b0 : (a1 == 65287) = true := beq_iff_eq.mpr c55
          have c55b1 : (a1 != 65287) = false := bne_eq_false_iff_eq.mpr c55
          clear c55
          by_cases c56 : t186 = true
          · subst c56
            have H1 : ((whirligigref11_Hot.f kj4 x185000_4 x185001_4 x185002_4 x185003_4 x185004_4).bind fun t193 => (if t193 = true then (some (x185000_4, x185001_4, x185002_4, x185003_4, x185004_4)) else ((whirligigref11_count.f x185000_4 x185001_4 x185002_4 x185003_4 x185004_4).bind fun bt194 => (some (bt194.1, bt194.2.1, bt194.2.2.1, bt194.2.2.2.1, bt194.2.2.2.2))))) = some (r1, r2, r3, r4, r5) := by rw [if_pos rfl] at H; exact H
            clear H
            have H := H1
            clear H1
            replace H := Option.bind_eq_some_iff.mp H
            obtain ⟨t193, A570, H⟩ := H
            replace H : (if t193 = true then (some (x185000_4, x185001_4, x185002_4, x185003_4, x185004_4)) else ((whirligigref11_count.f x185000_4 x185001_4 x185002_4 x185003_4 x185004_4).bind fun bt194 => (some (bt194.1, bt194.2.1, bt194.2.2.1, bt194.2.2.2.1, bt194.2.2.2.2)))) = some (r1, r2, r3, r4, r5) := H
            have A57 := Aside0.mk A570
            clear A570
            by_cases c58 : t193 = true
            · subst c58
              have H1 : (some (x185000_4, x185001_4, x185002_4, x185003_4, x185004_4)) = some (r1, r2, r3, r4, r5) := by rw [if_pos rfl] at H; exact H
              clear H
              have H := H1
              clear H1
              simp only [Option.some.injEq, Prod.mk.injEq] at H
              obtain ⟨rfl, rfl, rfl, rfl, rfl⟩ := H
              have hnb59 := NB184_185.out
              have hnc59 := NB185_184.out
              have hcz60_0 : wc.cell? ⟨gb184, 0, none⟩ = some (.int .u16 x185000_4) := (blk_cell BK184.out 0).trans rfl
              have hcz60_1 : wc.cell? ⟨gb184, 1, none⟩ = some (.int .u8 x185001_4) := (blk_cell BK184.out 1).trans rfl
              have hcz60_2 : wc.cell? ⟨gb184, 2, none⟩ = some (.int .u8 x185002_4) := (blk_cell BK184.out 2).trans rfl
              have hcz60_3 : wc.cell? ⟨gb184, 3, none⟩ = some (.int .u8 x185003_4) := (blk_cell BK184.out 3).trans rfl
              have hcz60_4 : wc.cell? ⟨gb184, 4, none⟩ = some (.int .u8 x185004_4) := (blk_cell BK184.out 4).trans rfl
              have hfz60_0 := blk_frozen BK184.out 0
              have hfz60_1 := blk_frozen BK184.out 1
              have hfz60_2 := blk_frozen BK184.out 2
              have hfz60_3 := blk_frozen BK184.out 3
              have hfz60_4 := blk_frozen BK184.out 4
              go_wp2_with (first | (go_at_call 12; (with_reducible refine (whirligigref11_Hot.calls kj4 x185000_4 x185001_4 x185002_4 x185003_4 x185004_4 true _ A57.out).mono ?_); rintro e w61 ⟨rfl, hb⟩; have n0_ := Aside0.mk (blk_below (g := gb184) (o := .cells #[.int .u16 x185000_4, .int .u8 x185001_4, .int .u8 x185002_4, .int .u8 x185003_4, .int .u8 x185004_4] 24 (0, 0)) (by (with_reducible repeat (first | refine blk_drewN ?_ _ | refine blk_drew ?_ | refine blk_alloc ?_ _)); exact BK184.out) hb); have n1_ := Aside0.mk (blk_below (g := gb185) (o := .cells #[.int .u16 0, .int .u8 0, .int .u8 0, .int .u8 0, .int .u8 0] 24 (0, 0)) (by (with_reducible repeat (first | refine blk_drewN ?_ _ | refine blk_drew ?_ | refine blk_alloc ?_ _)); exact BK185.out) hb); have n2_ := Aside0.mk (below_step (by repeat (first | (with_reducible first | exact HB.out | apply below_alloc | apply pw_below_drewN | apply below_drew1 | refine below_set ?_ GE184.out | refine below_set ?_ GE185.out) | exact HB.out)) hb); clear BK184; clear BK185; clear HB; have BK184 := n0_; have BK185 := n1_; have HB := n2_; clear n0_ n1_ n2_; (try clear hb); (try clear hb2); (try clear hk); (try clear hi); have hcz62_0 : w61.cell? ⟨gb184, 0, none⟩ = some (.int .u16 x185000_4) := (blk_cell BK184.out 0).trans rfl; have hcz62_1 : w61.cell? ⟨gb184, 1, none⟩ = some (.int .u8 x185001_4) := (blk_cell BK184.out 1).trans rfl; have hcz62_2 : w61.cell? ⟨gb184, 2, none⟩ = some (.int .u8 x185002_4) := (blk_cell BK184.out 2).trans rfl; have hcz62_3 : w61.cell? ⟨gb184, 3, none⟩ = some (.int .u8 x185003_4) := (blk_cell BK184.out 3).trans rfl; have hcz62_4 : w61.cell? ⟨gb184, 4, none⟩ = some (.int .u8 x185004_4) := (blk_cell BK184.out 4).trans rfl; have hfz62_0 := blk_frozen BK184.out 0; have hfz62_1 := blk_frozen BK184.out 1; have hfz62_2 := blk_frozen BK184.out 2; have hfz62_3 := blk_frozen BK184.out 3; have hfz62_4 := blk_frozen BK184.out 4; have hcz63_0 : w61.cell? ⟨gb185, 0, none⟩ = some (.int .u16 0) := (blk_cell BK185.out 0).trans rfl; have hcz63_1 : w61.cell? ⟨gb185, 1, none⟩ = some (.int .u8 0) := (blk_cell BK185.out 1).trans rfl; have hcz63_2 : w61.cell? ⟨gb185, 2, none⟩ = some (.int .u8 0) := (blk_cell BK185.out 2).trans rfl; have hcz63_3 : w61.cell? ⟨gb185, 3, none⟩ = some (.int .u8 0) := (blk_cell BK185.out 3).trans rfl; have hcz63_4 : w61.cell? ⟨gb185, 4, none⟩ = some (.int .u8 0) := (blk_cell BK185.out 4).trans rfl; have hfz63_0 := blk_frozen BK185.out 0; have hfz63_1 := blk_frozen BK185.out 1; have hfz63_2 := blk_frozen BK185.out 2; have hfz63_3 := blk_frozen BK185.out 3; have hfz63_4 := blk_frozen BK185.out 4))
              refine bodyPost_ret (results_cell_row rfl _ _ gb185 24 #[.int .u16 x185000_4, .int .u8 x185001_4, .int .u8 x185002_4, .int .u8 x185003_4, .int .u8 x185004_4] (0, 0) _ rfl (by (with_reducible repeat (first | refine blk_drewN ?_ _ | refine blk_drew ?_ | refine blk_alloc ?_ _)); refine blk_put (cs := #[.int .u16 x185000_4, .int .u8 x185001_4, .int .u8 x185002_4, .int .u8 x185003_4, .int .u8 0]) ?_ 4 _ rfl; (with_reducible repeat (first | refine blk_drewN ?_ _ | refine blk_drew ?_ | refine blk_alloc ?_ _)); refine blk_put (cs := #[.int .u16 x185000_4, .int .u8 x185001_4, .int .u8 x185002_4, .int .u8 0, .int .u8 0]) ?_ 3 _ rfl; (with_reducible repeat (first | refine blk_drewN ?_ _ | refine blk_drew ?_ | refine blk_alloc ?_ _)); refine blk_put (cs := #[.int .u16 x185000_4, .int .u8 x185001_4, .int .u8 0, .int .u8 0, .int .u8 0]) ?_ 2 _ rfl; (with_reducible repeat (first | refine blk_drewN ?_ _ | refine blk_drew ?_ | refine blk_alloc ?_ _)); refine blk_put (cs := #[.int .u16 x185000_4, .int .u8 0, .int .u8 0, .int .u8 0, .int .u8 0]) ?_ 1 _ rfl; (with_reducible repeat (first | refine blk_drewN ?_ _ | refine blk_drew ?_ | refine blk_alloc ?_ _)); refine blk_put (cs := #[.int .u16 0, .int .u8 0, .int .u8 0, .int .u8 0, .int .u8 0]) ?_ 0 _ rfl; (with_reducible repeat (first | refine blk_drewN ?_ _ | refine blk_drew ?_ | refine blk_alloc ?_ _)); exact BK185.out) Try.underlying24 rfl (by kernel_rfl)) rfl ?_
              exact ⟨by first | rfl | (simp [errW_none, errW_some] <;> rfl) | (simp [*, errW_none, errW_some] <;> rfl), by repeat (first | (with_reducible first | exact HB.out | apply below_alloc | apply pw_below_drewN | apply below_drew1 | refine below_set ?_ GE184.out | refine below_set ?_ GE185.out) | exact HB.out)⟩
            · replace c58 := Bool.eq_false_iff.mpr c58
              subst c58
              have H1 : ((whirligigref11_count.f x185000_4 x185001_4 x185002_4 x185003_4 x185004_4).bind fun bt194 => (some (bt194.1, bt194.2.1, bt194.2.2.1, bt194.2.2.2.1, bt194.2.2.2.2))) = some (r1, r2, r3, r4, r5) := by rw [if_neg (show ¬ (false = true) by decide)] at H; exact H
              clear H
              have H := H1
              clear H1
              replace H := Option.bind_eq_some_iff.mp H
              obtain ⟨⟨t194, t195, t196, t197, t198⟩, A640, H⟩ := H
              replace H : (some (t194, t195, t196, t197, t198)) = some (r1, r2, r3, r4, r5) := H
              have A64 := Aside0.mk A640
              clear A640
              simp only [Option.some.injEq, Prod.mk.injEq] at H
              obtain ⟨rfl, rfl, rfl, rfl, rfl⟩ := H
              have hnb65 := NB184_185.out
              have hnc65 := NB185_184.out
              have hcz66_0 : wc.cell? ⟨gb184, 0, none⟩ = some (.int .u16 x185000_4) := (blk_cell BK184.out 0).trans rfl
              have hcz66_1 : wc.cell? ⟨gb184, 1, none⟩ = some (.int .u8 x185001_4) := (blk_cell BK184.out 1).trans rfl
              have hcz66_2 : wc.cell? ⟨gb184, 2, none⟩ = some (.int .u8 x185002_4) := (blk_cell BK184.out 2).trans rfl
              have hcz66_3 : wc.cell? ⟨gb184, 3, none⟩ = some (.int .u8 x185003_4) := (blk_cell BK184.out 3).trans rfl
              have hcz66_4 : wc.cell? ⟨gb184, 4, none⟩ = some (.int .u8 x185004_4) := (blk_cell BK184.out 4).trans rfl
              have hfz66_0 := blk_frozen BK184.out 0
              have hfz66_1 := blk_frozen BK184.out 1
              have hfz66_2 := blk_frozen BK184.out 2
              have hfz66_3 := blk_frozen BK184.out 3
              have hfz66_4 := blk_frozen BK184.out 4
              go_wp2_with (first | (go_at_call 12; (with_reducible refine (whirligigref11_Hot.calls kj4 x185000_4 x185001_4 x185002_4 x185003_4 x185004_4 false _ A57.out).mono ?_); rintro e w67 ⟨rfl, hb⟩; have n0_ := Aside0.mk (blk_below (g := gb184) (o := .cells #[.int .u16 x185000_4, .int .u8 x185001_4, .int .u8 x185002_4, .int .u8 x185003_4, .int .u8 x185004_4] 24 (0, 0)) (by (with_reducible repeat (first | refine blk_drewN ?_ _ | refine blk_drew ?_ | refine blk_alloc ?_ _)); exact BK184.out) hb); have n1_ := Aside0.mk (blk_below (g := gb185) (o := .cells #[.int .u16 0, .int .u8 0, .int .u8 0, .int .u8 0, .int .u8 0] 24 (0, 0)) (by (with_reducible repeat (first | refine blk_drewN ?_ _ | refine blk_drew ?_ | refine blk_alloc ?_ _)); exact BK185.out) hb); have n2_ := Aside0.mk (below_step (by repeat (first | (with_reducible first | exact HB.out | apply below_alloc | apply pw_below_drewN | apply below_drew1 | refine below_set ?_ GE184.out | refine below_set ?_ GE185.out) | exact HB.out)) hb); clear BK184; clear BK185; clear HB; have BK184 := n0_; have BK185 := n1_; have HB := n2_; clear n0_ n1_ n2_; (try clear hb); (try clear hb2); (try clear hk); (try clear hi); have hcz68_0 : w67.cell? ⟨gb184, 0, none⟩ = some (.int .u16 x185000_4) := (blk_cell BK184.out 0).trans rfl; have hcz68_1 : w67.cell? ⟨gb184, 1, none⟩ = some (.int .u8 x185001_4) := (blk_cell BK184.out 1).trans rfl; have hcz68_2 : w67.cell? ⟨gb184, 2, none⟩ = some (.int .u8 x185002_4) := (blk_cell BK184.out 2).trans rfl; have hcz68_3 : w67.cell? ⟨gb184, 3, none⟩ = some (.int .u8 x185003_4) := (blk_cell BK184.out 3).trans rfl; have hcz68_4 : w67.cell? ⟨gb184, 4, none⟩ = some (.int .u8 x185004_4) := (blk_cell BK184.out 4).trans rfl; have hfz68_0 := blk_frozen BK184.out 0; have hfz68_1 := blk_frozen BK184.out 1; have hfz68_2 := blk_frozen BK184.out 2; have hfz68_3 := blk_frozen BK184.out 3; have hfz68_4 := blk_frozen BK184.out 4) | ((with_reducible refine gate_callee (f := 24) rfl ?_); refine goesL_ (some 54) rfl rfl Try.func24 (by kernel_rfl) rfl #[.agg #[.int .u16 x185000_4, .int .u8 x185001_4, .int .u8 x185002_4, .int .u8 x185003_4, .int .u8 x185004_4]] rfl (by (try simp only [List.map_toArray, List.map_cons, List.map_nil]); first | done | rfl | (simp only [List.length_drop, List.length_take]; rfl)) ?_; (with_reducible refine (whirligigref11_count.calls x185000_4 x185001_4 x185002_4 x185003_4 x185004_4 t194 t195 t196 t197 t198 _ A64.out).mono ?_); rintro e w69 ⟨rfl, hb⟩; refine ⟨_, rfl, ?_⟩; have n0_ := Aside0.mk (blk_below (g := gb184) (o := .cells #[.int .u16 x185000_4, .int .u8 x185001_4, .int .u8 x185002_4, .int .u8 x185003_4, .int .u8 x185004_4] 24 (0, 0)) (by (with_reducible repeat (first | refine blk_drewN ?_ _ | refine blk_drew ?_ | refine blk_alloc ?_ _)); exact BK184.out) hb); have n1_ := Aside0.mk (blk_below (g := gb185) (o := .cells #[.int .u16 0, .int .u8 0, .int .u8 0, .int .u8 0, .int .u8 0] 24 (0, 0)) (by (with_reducible repeat (first | refine blk_drewN ?_ _ | refine blk_drew ?_ | refine blk_alloc ?_ _)); exact BK185.out) hb); have n2_ := Aside0.mk (below_step (by repeat (first | (with_reducible first | exact HB.out | apply below_alloc | apply pw_below_drewN | apply below_drew1 | refine below_set ?_ GE184.out | refine below_set ?_ GE185.out) | exact HB.out)) hb); clear BK184; clear BK185; clear HB; have BK184 := n0_; have BK185 := n1_; have HB := n2_; clear n0_ n1_ n2_; (try clear hb); (try clear hb2); (try clear hk); (try clear hi); have hcz70_0 : w69.cell? ⟨gb184, 0, none⟩ = some (.int .u16 x185000_4) := (blk_cell BK184.out 0).trans rfl; have hcz70_1 : w69.cell? ⟨gb184, 1, none⟩ = some (.int .u8 x185001_4) := (blk_cell BK184.out 1).trans rfl; have hcz70_2 : w69.cell? ⟨gb184, 2, none⟩ = some (.int .u8 x185002_4) := (blk_cell BK184.out 2).trans rfl; have hcz70_3 : w69.cell? ⟨gb184, 3, none⟩ = some (.int .u8 x185003_4) := (blk_cell BK184.out 3).trans rfl; have hcz70_4 : w69.cell? ⟨gb184, 4, none⟩ = some (.int .u8 x185004_4) := (blk_cell BK184.out 4).trans rfl; have hfz70_0 := blk_frozen BK184.out 0; have hfz70_1 := blk_frozen BK184.out 1; have hfz70_2 := blk_frozen BK184.out 2; have hfz70_3 := blk_frozen BK184.out 3; have hfz70_4 := blk_frozen BK184.out 4; have hcz71_0 : w69.cell? ⟨gb185, 0, none⟩ = some (.int .u16 0) := (blk_cell BK185.out 0).trans rfl; have hcz71_1 : w69.cell? ⟨gb185, 1, none⟩ = some (.int .u8 0) := (blk_cell BK185.out 1).trans rfl; have hcz71_2 : w69.cell? ⟨gb185, 2, none⟩ = some (.int .u8 0) := (blk_cell BK185.out 2).trans rfl; have hcz71_3 : w69.cell? ⟨gb185, 3, none⟩ = some (.int .u8 0) := (blk_cell BK185.out 3).trans rfl; have hcz71_4 : w69.cell? ⟨gb185, 4, none⟩ = some (.int .u8 0) := (blk_cell BK185.out 4).trans rfl; have hfz71_0 := blk_frozen BK185.out 0; have hfz71_1 := blk_frozen BK185.out 1; have hfz71_2 := blk_frozen BK185.out 2; have hfz71_3 := blk_frozen BK185.out 3; have hfz71_4 := blk_frozen BK185.out 4))
              refine bodyPost_ret (results_cell_row rfl _ _ gb185 24 #[.int .u16 t194, .int .u8 t195, .int .u8 t196, .int .u8 t197, .int .u8 t198] (0, 0) _ rfl (by (with_reducible repeat (first | refine blk_drewN ?_ _ | refine blk_drew ?_ | refine blk_alloc ?_ _)); refine blk_put (cs := #[.int .u16 t194, .int .u8 t195, .int .u8 t196, .int .u8 t197, .int .u8 0]) ?_ 4 _ rfl; (with_reducible repeat (first | refine blk_drewN ?_ _ | refine blk_drew ?_ | refine blk_alloc ?_ _)); refine blk_put (cs := #[.int .u16 t194, .int .u8 t195, .int .u8 t196, .int .u8 0, .int .u8 0]) ?_ 3 _ rfl; (with_reducible repeat (first | refine blk_drewN ?_ _ | refine blk_drew ?_ | refine blk_alloc ?_ _)); refine blk_put (cs := #[.int .u16 t194, .int .u8 t195, .int .u8 0, .int .u8 0, .int .u8 0]) ?_ 2 _ rfl; (with_reducible repeat (first | refine blk_drewN ?_ _ | refine blk_drew ?_ | refine blk_alloc ?_ _)); refine blk_put (cs := #[.int .u16 t194, .int .u8 0, .int .u8 0, .int .u8 0, .int .u8 0]) ?_ 1 _ rfl; (with_reducible repeat (first | refine blk_drewN ?_ _ | refine blk_drew ?_ | refine blk_alloc ?_ _)); refine blk_put (cs := #[.int .u16 0, .int .u8 0, .int .u8 0, .int .u8 0, .int .u8 0]) ?_ 0 _ rfl; (with_reducible repeat (first | refine blk_drewN ?_ _ | refine blk_drew ?_ | refine blk_alloc ?_ _)); refine blk_far ?_ NB185_184.out _; (with_reducible repeat (first | refine blk_drewN ?_ _ | refine blk_drew ?_ | refine blk_alloc ?_ _)); refine blk_far ?_ NB185_184.out _; (with_reducible repeat (first | refine blk_drewN ?_ _ | refine blk_drew ?_ | refine blk_alloc ?_ _)); refine blk_far ?_ NB185_184.out _; (with_reducible repeat (first | refine blk_drewN ?_ _ | refine blk_drew ?_ | refine blk_alloc ?_ _)); refine blk_far ?_ NB185_184.out _; (with_reducible repeat (first | refine blk_drewN ?_ _ | refine blk_drew ?_ | refine blk_alloc ?_ _)); refine blk_far ?_ NB185_184.out _; (with_reducible repeat (first | refine blk_drewN ?_ _ | refine blk_drew ?_ | refine blk_alloc ?_ _)); exact BK185.out) Try.underlying24 rfl (by kernel_rfl)) rfl ?_
              exact ⟨by first | rfl | (simp [errW_none, errW_some] <;> rfl) | (simp [*, errW_none, errW_some] <;> rfl), by repeat (first | (with_reducible first | exact HB.out | apply below_alloc | apply pw_below_drewN | apply below_drew1 | refine below_set ?_ GE184.out | refine below_set ?_ GE185.out) | exact HB.out)⟩
          · replace c56 := Bool.eq_false_iff.mpr c56
            subst c56
            have H1 : (some (x185000_4, x185001_4, x185002_4, x185003_4, x185004_4)) = some (r1, r2, r3, r4, r5) := by rw [if_neg (show ¬ (false = true) by decide)] at H; exact H
            clear H
            have H := H1
            clear H1
            simp only [Option.some.injEq, Prod.mk.injEq] at H
            obtain ⟨rfl, rfl, rfl, rfl, rfl⟩ := H
            have hnb72 := NB184_185.out
            have hnc72 := NB185_184.out
            have hcz73_0 : wc.cell? ⟨gb184, 0, none⟩ = some (.int .u16 x185000_4) := (blk_cell BK184.out 0).trans rfl
            have hcz73_1 : wc.cell? ⟨gb184, 1, none⟩ = some (.int .u8 x185001_4) := (blk_cell BK184.out 1).trans rfl
            have hcz73_2 : wc.cell? ⟨gb184, 2, none⟩ = some (.int .u8 x185002_4) := (blk_cell BK184.out 2).trans rfl
            have hcz73_3 : wc.cell? ⟨gb184, 3, none⟩ = some (.int .u8 x185003_4) := (blk_cell BK184.out 3).trans rfl
            have hcz73_4 : wc.cell? ⟨gb184, 4, none⟩ = some (.int .u8 x185004_4) := (blk_cell BK184.out 4).trans rfl
            have hfz73_0 := blk_frozen BK184.out 0
            have hfz73_1 := blk_frozen BK184.out 1
            have hfz73_2 := blk_frozen BK184.out 2
            have hfz73_3 := blk_frozen BK184.out 3
            have hfz73_4 := blk_frozen BK184.out 4
            have hcz74_0 : wc.cell? ⟨gb185, 0, none⟩ = some (.int .u16 0) := (blk_cell BK185.out 0).trans rfl
            have hcz74_1 : wc.cell? ⟨gb185, 1, none⟩ = some (.int .u8 0) := (blk_cell BK185.out 1).trans rfl
            have hcz74_2 : wc.cell? ⟨gb185, 2, none⟩ = some (.int .u8 0) := (blk_cell BK185.out 2).trans rfl
            have hcz74_3 : wc.cell? ⟨gb185, 3, none⟩ = some (.int .u8 0) := (blk_cell BK185.out 3).trans rfl
            have hcz74_4 : wc.cell? ⟨gb185, 4, none⟩ = some (.int .u8 0) := (blk_cell BK185.out 4).trans rfl
            have hfz74_0 := blk_frozen BK185.out 0
            have hfz74_1 := blk_frozen BK185.out 1
            have hfz74_2 := blk_frozen BK185.out 2
            have hfz74_3 := blk_frozen BK185.out 3
            have hfz74_4 := blk_frozen BK185.out 4
            go_wp2
            refine bodyPost_ret (results_cell_row rfl _ _ gb185 24 #[.int .u16 x185000_4, .int .u8 x185001_4, .int .u8 x185002_4, .int .u8 x185003_4, .int .u8 x185004_4] (0, 0) _ rfl (by (with_reducible repeat (first | refine blk_drewN ?_ _ | refine blk_drew ?_ | refine blk_alloc ?_ _)); refine blk_put (cs := #[.int .u16 x185000_4, .int .u8 x185001_4, .int .u8 x185002_4, .int .u8 x185003_4, .int .u8 0]) ?_ 4 _ rfl; (with_reducible repeat (first | refine blk_drewN ?_ _ | refine blk_drew ?_ | refine blk_alloc ?_ _)); refine blk_put (cs := #[.int .u16 x185000_4, .int .u8 x185001_4, .int .u8 x185002_4, .int .u8 0, .int .u8 0]) ?_ 3 _ rfl; (with_reducible repeat (first | refine blk_drewN ?_ _ | refine blk_drew ?_ | refine blk_alloc ?_ _)); refine blk_put (cs := #[.int .u16 x185000_4, .int .u8 x185001_4, .int .u8 0, .int .u8 0, .int .u8 0]) ?_ 2 _ rfl; (with_reducible repeat (first | refine blk_drewN ?_ _ | refine blk_drew ?_ | refine blk_alloc ?_ _)); refine blk_put (cs := #[.int .u16 x185000_4, .int .u8 0, .int .u8 0, .int .u8 0, .int .u8 0]) ?_ 1 _ rfl; (with_reducible repeat (first | refine blk_drewN ?_ _ | refine blk_drew ?_ | refine blk_alloc ?_ _)); refine blk_put (cs := #[.int .u16 0, .int .u8 0, .int .u8 0, .int .u8 0, .int .u8 0]) ?_ 0 _ rfl; (with_reducible repeat (first | refine blk_drewN ?_ _ | refine blk_drew ?_ | refine blk_alloc ?_ _)); exact BK185.out) Try.underlying24 rfl (by kernel_rfl)) rfl ?_
            exact ⟨by first | rfl | (simp [errW_none, errW_some] <;> rfl) | (simp [*, errW_none, errW_some] <;> rfl), by repeat (first | (with_reducible first | exact HB.out | apply below_alloc | apply pw_below_drewN | apply below_drew1 | refine below_set ?_ GE184.out | refine below_set ?_ GE185.out) | exact HB.out)⟩
        · rw [if_neg c55] at H
          have c55b0 : (a1 == 65287) = false := beq_eq_false_iff_ne.mpr c55
          have c55b1 : (a1 != 65287) = true := bne_iff_ne.mpr c55
          simp only [Option.some.injEq, Prod.mk.injEq] at H
          obtain ⟨rfl, rfl, rfl, rfl, rfl⟩ := H
          have hnb75 := NB184_185.out
          have hnc75 := NB185_184.out
          have hcz76_0 : wc.cell? ⟨gb184, 0, none⟩ = some (.int .u16 x185000_4) := (blk_cell BK184.out 0).trans rfl
          have hcz76_1 : wc.cell? ⟨gb184, 1, none⟩ = some (.int .u8 x185001_4) := (blk_cell BK184.out 1).trans rfl
          have hcz76_2 : wc.cell? ⟨gb184, 2, none⟩ = some (.int .u8 x185002_4) := (blk_cell BK184.out 2).trans rfl
          have hcz76_3 : wc.cell? ⟨gb184, 3, none⟩ = some (.int .u8 x185003_4) := (blk_cell BK184.out 3).trans rfl
          have hcz76_4 : wc.cell? ⟨gb184, 4, none⟩ = some (.int .u8 x185004_4) := (blk_cell BK184.out 4).trans rfl
          have hfz76_0 := blk_frozen BK184.out 0
          have hfz76_1 := blk_frozen BK184.out 1
          have hfz76_2 := blk_frozen BK184.out 2
          have hfz76_3 := blk_frozen BK184.out 3
          have hfz76_4 := blk_frozen BK184.out 4
          have hcz77_0 : wc.cell? ⟨gb185, 0, none⟩ = some (.int .u16 0) := (blk_cell BK185.out 0).trans rfl
          have hcz77_1 : wc.cell? ⟨gb185, 1, none⟩ = some (.int .u8 0) := (blk_cell BK185.out 1).trans rfl
          have hcz77_2 : wc.cell? ⟨gb185, 2, none⟩ = some (.int .u8 0) := (blk_cell BK185.out 2).trans rfl
          have hcz77_3 : wc.cell? ⟨gb185, 3, none⟩ = some (.int .u8 0) := (blk_cell BK185.out 3).trans rfl
          have hcz77_4 : wc.cell? ⟨gb185, 4, none⟩ = some (.int .u8 0) := (blk_cell BK185.out 4).trans rfl
          have hfz77_0 := blk_frozen BK185.out 0
          have hfz77_1 := blk_frozen BK185.out 1
          have hfz77_2 := blk_frozen BK185.out 2
          have hfz77_3 := blk_frozen BK185.out 3
          have hfz77_4 := blk_frozen BK185.out 4
          go_wp2
          refine bodyPost_ret (results_cell_row rfl _ _ gb185 24 #[.int .u16 x185000_4, .int .u8 x185001_4, .int .u8 x185002_4, .int .u8 x185003_4, .int .u8 x185004_4] (0, 0) _ rfl (by (with_reducible repeat (first | refine blk_drewN ?_ _ | refine blk_drew ?_ | refine blk_alloc ?_ _)); refine blk_put (cs := #[.int .u16 x185000_4, .int .u8 x185001_4, .int .u8 x185002_4, .int .u8 x185003_4, .int .u8 0]) ?_ 4 _ rfl; (with_reducible repeat (first | refine blk_drewN ?_ _ | refine blk_drew ?_ | refine blk_alloc ?_ _)); refine blk_put (cs := #[.int .u16 x185000_4, .int .u8 x185001_4, .int .u8 x185002_4, .int .u8 0, .int .u8 0]) ?_ 3 _ rfl; (with_reducible repeat (first | refine blk_drewN ?_ _ | refine blk_drew ?_ | refine blk_alloc ?_ _)); refine blk_put (cs := #[.int .u16 x185000_4, .int .u8 x185001_4, .int .u8 0, .int .u8 0, .int .u8 0]) ?_ 2 _ rfl; (with_reducible repeat (first | refine blk_drewN ?_ _ | refine blk_drew ?_ | refine blk_alloc ?_ _)); refine blk_put (cs := #[.int .u16 x185000_4, .int .u8 0, .int .u8 0, .int .u8 0, .int .u8 0]) ?_ 1 _ rfl; (with_reducible repeat (first | refine blk_drewN ?_ _ | refine blk_drew ?_ | refine blk_alloc ?_ _)); refine blk_put (cs := #[.int .u16 0, .int .u8 0, .int .u8 0, .int .u8 0, .int .u8 0]) ?_ 0 _ rfl; (with_reducible repeat (first | refine blk_drewN ?_ _ | refine blk_drew ?_ | refine blk_alloc ?_ _)); exact BK185.out) Try.underlying24 rfl (by kernel_rfl)) rfl ?_
          exact ⟨by first | rfl | (simp [errW_none, errW_some] <;> rfl) | (simp [*, errW_none, errW_some] <;> rfl), by repeat (first | (with_reducible first | exact HB.out | apply below_alloc | apply pw_below_drewN | apply below_drew1 | refine below_set ?_ GE184.out | refine below_set ?_ GE185.out) | exact HB.out)⟩

end Go.Proofs.Ytjfpbdecklkldaa.G
