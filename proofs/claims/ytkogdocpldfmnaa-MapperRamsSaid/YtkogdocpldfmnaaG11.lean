/- Written by a program of this session, after the kit's print: Go functions as Lean functions, each with the proof that the Go text comes to it. -/
import Derived.Test.YtkogdocpldfmnaaG0
import Derived.Test.YtkogdocpldfmnaaG10
namespace Go.Proofs.Ytkogdocpldfmnaa.G
open Go.RowKit Go.Proofs.YtkogdocpldfmnaaW.PrintWords Go.Proofs.YtkogdocpldfmnaaW.PrintLast Go.Proofs.YtkogdocpldfmnaaW.PrintMore
attribute [local go_sem] max2_int min2_int max_two min_two max_three min_three max_four min_four   -- for this text's walks alone
set_option linter.unusedVariables false
set_option linter.unusedSimpArgs false

/-! ### whirligigref08_Ram: function 18 -/
def whirligigref08_Ram.j0 : Nat → Int → Int → Bool → Int → Bool → Int → Int → Int → Bool → Option (Int)
  | 0, _, _, _, _, _, _, _, _, _ => none
  | k + 1, x1, x2, x14, x185000, x185001, x185002, x185003, x185004, x185005 => if x14 = true then (some (-1)) else (if x185000 = 1 then (if x185001 = true then (if x185005 = true then (if x2 = 0 then (none) else (some (Int.tmod (wrap64 ((wrap64 ((wrap64 (8192 * (wrap64 (x185003)))) + (wrap64 (x1)))) - 40960)) x2))) else (if x2 = 0 then (none) else (some (Int.tmod (wrap64 ((wrap64 ((8192 * 0) + (wrap64 (x1)))) - 40960)) x2)))) else (some (-1))) else (if x185000 = 3 then (if x185001 = true then (if x185004 > 7 then (some (-1)) else (if x2 = 0 then (none) else (some (Int.tmod (wrap64 ((wrap64 ((wrap64 (8192 * (wrap64 (x185004)))) + (wrap64 (x1)))) - 40960)) x2)))) else (some (-1))) else (if x185000 = 5 then (if x185001 = true then (if x2 = 0 then (none) else (some (Int.tmod (wrap64 ((wrap64 ((wrap64 (8192 * (wrap64 (x185004)))) + (wrap64 (x1)))) - 40960)) x2))) else (some (-1))) else (if x2 = 0 then (none) else (some (Int.tmod (wrap64 ((wrap64 ((8192 * 0) + (wrap64 (x1)))) - 40960)) x2))))))
def whirligigref08_Ram.f (k : Nat) (a0_0 : Int) (a0_1 : Bool) (a0_2 : Int) (a0_3 : Int) (a0_4 : Int) (a0_5 : Bool) (a1 : Int) (a2 : Int) : Option (Int) := if a2 < 1 then (whirligigref08_Ram.j0 k a1 a2 true a0_0 a0_1 a0_2 a0_3 a0_4 a0_5) else ((whirligigref08_window.f a1).bind fun t185 => (whirligigref08_Ram.j0 k a1 a2 (!t185) a0_0 a0_1 a0_2 a0_3 a0_4 a0_5))
theorem whirligigref08_Ram.mono_l : ∀ k, (∀ y0 y1 y2 y3 y4 y5 y6 y7 y8, LeO (whirligigref08_Ram.j0 k y0 y1 y2 y3 y4 y5 y6 y7 y8) (whirligigref08_Ram.j0 (k + 1) y0 y1 y2 y3 y4 y5 y6 y7 y8))
  | 0 => fun _ _ _ _ _ _ _ _ _ r h => by simp [whirligigref08_Ram.j0] at h
  | k + 1 => by
    have ih0 := whirligigref08_Ram.mono_l k
    · intro y0 y1 y2 y3 y4 y5 y6 y7 y8
      unfold whirligigref08_Ram.j0
      repeat' first
      | (with_reducible exact ih0 _ _ _ _ _ _ _ _ _)
      | (with_reducible exact LeO.refl _)
      | (with_reducible exact LeO.none _)
      | (with_reducible refine LeO.ite ?_ ?_)
      | (with_reducible refine LeO.bind ?_ (fun _ => ?_))
      | exact ih0 _ _ _ _ _ _ _ _ _
      | exact LeO.none _
      | refine LeO.ite ?_ ?_
      | refine LeO.bind ?_ (fun _ => ?_)
theorem whirligigref08_Ram.mono : ∀ a0 a1 a2 a3 a4 a5 a6 a7 k, LeO (whirligigref08_Ram.f k a0 a1 a2 a3 a4 a5 a6 a7) (whirligigref08_Ram.f (k + 1) a0 a1 a2 a3 a4 a5 a6 a7) := by
  intro a0 a1 a2 a3 a4 a5 a6 a7 k
  have ih0 := whirligigref08_Ram.mono_l k
  unfold whirligigref08_Ram.f
  repeat' first
      | (with_reducible exact ih0 _ _ _ _ _ _ _ _ _)
      | (with_reducible exact LeO.refl _)
      | (with_reducible exact LeO.none _)
      | (with_reducible refine LeO.ite ?_ ?_)
      | (with_reducible refine LeO.bind ?_ (fun _ => ?_))
      | exact ih0 _ _ _ _ _ _ _ _ _
      | exact LeO.none _
      | refine LeO.ite ?_ ?_
      | refine LeO.bind ?_ (fun _ => ?_)
set_option maxHeartbeats 8000000 in
set_option maxRecDepth 100000 in
theorem whirligigref08_Ram.calls (k : Nat) (a0_0 : Int) (a0_1 : Bool) (a0_2 : Int) (a0_3 : Int) (a0_4 : Int) (a0_5 : Bool) (a1 : Int) (a2 : Int) (r : Int) (w : World) (h : whirligigref08_Ram.f k a0_0 a0_1 a0_2 a0_3 a0_4 a0_5 a1 a2 = some r) :
    Calls Try.prog 18 #[.agg #[.int .i64 a0_0, .bool a0_1, .int .u8 a0_2, .int .u8 a0_3, .int .u8 a0_4, .bool a0_5], .int .u16 a1, .int .i64 a2] w fun e w' => e = .returned (.int .i64 r) ∧ Below w.heap.size w w' := by
  have hu24 := Try.underlying24
  have HB := Aside0.mk (Below.refl w.heap.size w)
  have H : (if a2 < 1 then (whirligigref08_Ram.j0 k a1 a2 true a0_0 a0_1 a0_2 a0_3 a0_4 a0_5) else ((whirligigref08_window.f a1).bind fun t185 => (whirligigref08_Ram.j0 k a1 a2 (!t185) a0_0 a0_1 a0_2 a0_3 a0_4 a0_5))) = some r := h
  clear h
  have HC4 := Aside0.mk H
  clear H
  go_enter Try.func18, Try.ntmps18
  go_upto_region 1 with (first | ((with_reducible refine gate_dst (N := 3) rfl ?_); refine box_event ?hg (N := 3) ?hd (cs := #[.int .i64 a0_0, .bool a0_1, .int .u8 a0_2, .int .u8 a0_3, .int .u8 a0_4, .bool a0_5]) (t := 24) ?hr ?_; (case hd => rfl); (case hg => rfl); (case hr => first | (go_simp; done) | (go_simp; rfl)); intro gb184 hg w5 hbox hb; have n0_ := Aside0.mk (below_step (by repeat (first | (with_reducible first | exact HB.out | apply below_alloc | apply pw_below_drewN | apply below_drew1) | exact HB.out)) hb); have n1_ := Aside0.mk (hbox); have n2_ := Aside0.mk ((by rw [hg]; exact (below_size (by repeat (first | (with_reducible first | exact HB.out | apply below_alloc | apply pw_below_drewN | apply below_drew1) | exact HB.out))) : w.heap.size ≤ gb184)); have n3_ := Aside0.mk ((by rw [hg]; exact (below_size (by repeat (first | (with_reducible first | exact HB.out | apply below_alloc | apply pw_below_drewN | apply below_drew1) | exact HB.out))) : w.heap.size ≤ gb184)); clear HB; have HB := n0_; have BK184 := n1_; have GW184 := n2_; have GE184 := n3_; clear n0_ n1_ n2_ n3_; clear hb hbox hg))
  (try simp only [Act.put, List.setIfInBounds_toArray, List.set_cons_zero, List.set_cons_succ])
  go_cut [14] (fun v14 wc => ∃ (kq : Nat) (x14_3 : Bool), v14 = .bool x14_3 ∧ Aside0 (whirligigref08_Ram.j0 kq a1 a2 x14_3 a0_0 a0_1 a0_2 a0_3 a0_4 a0_5 = some r) ∧ Aside0 (kq ≤ k) ∧ Aside0 (wc.heap[gb184]? = some (.cells #[.int .i64 a0_0, .bool a0_1, .int .u8 a0_2, .int .u8 a0_3, .int .u8 a0_4, .bool a0_5] 24 (0, 0))) ∧ Aside0 (Below w.heap.size w wc))
  case first =>
    have H := HC4.out
    clear HC4
    by_cases c6 : a2 < 1
    · rw [if_pos c6] at H
      have c6b0 : decide (a2 < 1) = true := decide_eq_true c6
      clear c6
      (first | rw [c6b0] | (simp only [i64_w, i32_w]; rw [c6b0]) | skip)
      have H' := Aside0.mk H
      clear H
      go_wp2
      go_meet
      case rel => exact ⟨_, (true), (by first | rfl | (simp; done) | (simp [*]; done)), H', ⟨by first | omega | exact Nat.le_refl _⟩, ⟨by (with_reducible repeat (first | refine blk_drewN ?_ _ | refine blk_drew ?_ | refine blk_alloc ?_ _)); exact BK184.out⟩, ⟨by repeat (first | (with_reducible first | exact HB.out | apply below_alloc | apply pw_below_drewN | apply below_drew1 | refine below_set ?_ GE184.out) | exact HB.out)⟩⟩
    · rw [if_neg c6] at H
      have c6b0 : decide (a2 < 1) = false := decide_eq_false c6
      clear c6
      (first | rw [c6b0] | (simp only [i64_w, i32_w]; rw [c6b0]) | skip)
      replace H := Option.bind_eq_some_iff.mp H
      obtain ⟨t185, A70, H⟩ := H
      replace H : (whirligigref08_Ram.j0 k a1 a2 (!t185) a0_0 a0_1 a0_2 a0_3 a0_4 a0_5) = some r := H
      have A7 := Aside0.mk A70
      clear A70
      have H' := Aside0.mk H
      clear H
      go_wp2_with (first | (go_at_call 25; (with_reducible refine (whirligigref08_window.calls a1 t185 _ A7.out).mono ?_); rintro e w' ⟨rfl, ⟨nd, rfl⟩⟩))
      go_meet
      case rel => exact ⟨_, (!t185), (by first | rfl | (simp; done) | (simp [*]; done)), H', ⟨by first | omega | exact Nat.le_refl _⟩, ⟨by (with_reducible repeat (first | refine blk_drewN ?_ _ | refine blk_drew ?_ | refine blk_alloc ?_ _)); exact BK184.out⟩, ⟨by repeat (first | (with_reducible first | exact HB.out | apply below_alloc | apply pw_below_drewN | apply below_drew1 | refine below_set ?_ GE184.out) | exact HB.out)⟩⟩
  case rest =>
    clear HC4
    try clear c1
    try clear p2
    try clear c6
    try clear c6b0
    obtain ⟨kq, x14_3, rfl, HA, HJ3, BK184, HB⟩ := hcut
    cases kq with
    | zero => exact absurd HA.out (by simp [whirligigref08_Ram.j0])
    | succ kj3 =>
      have H := HA.out
      clear HA
      simp only [whirligigref08_Ram.j0] at H
      by_cases c8 : x14_3 = true
      · subst c8
        have H1 : (some (-1)) = some r := by rw [if_pos rfl] at H; exact H
        clear H
        have H := H1
        clear H1
        obtain rfl := Option.some.inj H
        go_wp2
        go_ret
        exact ⟨by first | rfl | (simp [errW_none, errW_some] <;> rfl) | (simp [*, errW_none, errW_some] <;> rfl), by repeat (first | (with_reducible first | exact HB.out | apply below_alloc | apply pw_below_drewN | apply below_drew1 | refine below_set ?_ GE184.out) | exact HB.out)⟩
      · replace c8 := Bool.eq_false_iff.mpr c8
        subst c8
        have H1 : (if a0_0 = 1 then (if a0_1 = true then (if a0_5 = true then (if a2 = 0 then (none) else (some (Int.tmod (wrap64 ((wrap64 ((wrap64 (8192 * (wrap64 (a0_3)))) + (wrap64 (a1)))) - 40960)) a2))) else (if a2 = 0 then (none) else (some (Int.tmod (wrap64 ((wrap64 ((8192 * 0) + (wrap64 (a1)))) - 40960)) a2)))) else (some (-1))) else (if a0_0 = 3 then (if a0_1 = true then (if a0_4 > 7 then (some (-1)) else (if a2 = 0 then (none) else (some (Int.tmod (wrap64 ((wrap64 ((wrap64 (8192 * (wrap64 (a0_4)))) + (wrap64 (a1)))) - 40960)) a2)))) else (some (-1))) else (if a0_0 = 5 then (if a0_1 = true then (if a2 = 0 then (none) else (some (Int.tmod (wrap64 ((wrap64 ((wrap64 (8192 * (wrap64 (a0_4)))) + (wrap64 (a1)))) - 40960)) a2))) else (some (-1))) else (if a2 = 0 then (none) else (some (Int.tmod (wrap64 ((wrap64 ((8192 * 0) + (wrap64 (a1)))) - 40960)) a2)))))) = some r := by rw [if_neg (show ¬ (false = true) by decide)] at H; exact H
        clear H
        have H := H1
        clear H1
        by_cases c9 : a0_0 = 1
        · rw [if_pos c9] at H
          have c9b0 : (a0_0 == 1) = true := beq_iff_eq.mpr c9
          have c9b1 : (a0_0 != 1) = false := bne_eq_false_iff_eq.mpr c9
          clear c9
          by_cases c10 : a0_1 = true
          · subst c10
            have H1 : (if a0_5 = true then (if a2 = 0 then (none) else (some (Int.tmod (wrap64 ((wrap64 ((wrap64 (8192 * (wrap64 (a0_3)))) + (wrap64 (a1)))) - 40960)) a2))) else (if a2 = 0 then (none) else (some (Int.tmod (wrap64 ((wrap64 ((8192 * 0) + (wrap64 (a1)))) - 40960)) a2)))) = some r := by rw [if_pos rfl] at H; exact H
            clear H
            have H := H1
            clear H1
            by_cases c11 : a0_5 = true
            · subst c11
              have H1 : (if a2 = 0 then (none) else (some (Int.tmod (wrap64 ((wrap64 ((wrap64 (8192 * (wrap64 (a0_3)))) + (wrap64 (a1)))) - 40960)) a2))) = some r := by rw [if_pos rfl] at H; exact H
              clear H
              have H := H1
              clear H1
              by_cases c12 : a2 = 0
              · rw [if_pos c12] at H
                exact absurd H (by simp)
              · rw [if_neg c12] at H
                have c12b0 : (a2 == 0) = false := beq_eq_false_iff_ne.mpr c12
                have c12b1 : (a2 != 0) = true := bne_iff_ne.mpr c12
                obtain rfl := Option.some.inj H
                have hcz13_0 : wc.cell? ⟨gb184, 0, none⟩ = some (.int .i64 a0_0) := (blk_cell BK184.out 0).trans rfl
                have hcz13_1 : wc.cell? ⟨gb184, 1, none⟩ = some (.bool true) := (blk_cell BK184.out 1).trans rfl
                have hcz13_2 : wc.cell? ⟨gb184, 2, none⟩ = some (.int .u8 a0_2) := (blk_cell BK184.out 2).trans rfl
                have hcz13_3 : wc.cell? ⟨gb184, 3, none⟩ = some (.int .u8 a0_3) := (blk_cell BK184.out 3).trans rfl
                have hcz13_4 : wc.cell? ⟨gb184, 4, none⟩ = some (.int .u8 a0_4) := (blk_cell BK184.out 4).trans rfl
                have hcz13_5 : wc.cell? ⟨gb184, 5, none⟩ = some (.bool true) := (blk_cell BK184.out 5).trans rfl
                have hfz13_0 := blk_frozen BK184.out 0
                have hfz13_1 := blk_frozen BK184.out 1
                have hfz13_2 := blk_frozen BK184.out 2
                have hfz13_3 := blk_frozen BK184.out 3
                have hfz13_4 := blk_frozen BK184.out 4
                have hfz13_5 := blk_frozen BK184.out 5
                go_wp2
                go_ret
                exact ⟨by first | rfl | (simp [errW_none, errW_some] <;> rfl) | (simp [*, errW_none, errW_some] <;> rfl), by repeat (first | (with_reducible first | exact HB.out | apply below_alloc | apply pw_below_drewN | apply below_drew1 | refine below_set ?_ GE184.out) | exact HB.out)⟩
            · replace c11 := Bool.eq_false_iff.mpr c11
              subst c11
              have H1 : (if a2 = 0 then (none) else (some (Int.tmod (wrap64 ((wrap64 ((8192 * 0) + (wrap64 (a1)))) - 40960)) a2))) = some r := by rw [if_neg (show ¬ (false = true) by decide)] at H; exact H
              clear H
              have H := H1
              clear H1
              by_cases c14 : a2 = 0
              · rw [if_pos c14] at H
                exact absurd H (by simp)
              · rw [if_neg c14] at H
                have c14b0 : (a2 == 0) = false := beq_eq_false_iff_ne.mpr c14
                have c14b1 : (a2 != 0) = true := bne_iff_ne.mpr c14
                obtain rfl := Option.some.inj H
                have hcz15_0 : wc.cell? ⟨gb184, 0, none⟩ = some (.int .i64 a0_0) := (blk_cell BK184.out 0).trans rfl
                have hcz15_1 : wc.cell? ⟨gb184, 1, none⟩ = some (.bool true) := (blk_cell BK184.out 1).trans rfl
                have hcz15_2 : wc.cell? ⟨gb184, 2, none⟩ = some (.int .u8 a0_2) := (blk_cell BK184.out 2).trans rfl
                have hcz15_3 : wc.cell? ⟨gb184, 3, none⟩ = some (.int .u8 a0_3) := (blk_cell BK184.out 3).trans rfl
                have hcz15_4 : wc.cell? ⟨gb184, 4, none⟩ = some (.int .u8 a0_4) := (blk_cell BK184.out 4).trans rfl
                have hcz15_5 : wc.cell? ⟨gb184, 5, none⟩ = some (.bool false) := (blk_cell BK184.out 5).trans rfl
                have hfz15_0 := blk_frozen BK184.out 0
                have hfz15_1 := blk_frozen BK184.out 1
                have hfz15_2 := blk_frozen BK184.out 2
                have hfz15_3 := blk_frozen BK184.out 3
                have hfz15_4 := blk_frozen BK184.out 4
                have hfz15_5 := blk_frozen BK184.out 5
                go_wp2
                go_ret
                exact ⟨by first | rfl | (simp [errW_none, errW_some] <;> rfl) | (simp [*, errW_none, errW_some] <;> rfl), by repeat (first | (with_reducible first | exact HB.out | apply below_alloc | apply pw_below_drewN | apply below_drew1 | refine below_set ?_ GE184.out) | exact HB.out)⟩
          · replace c10 := Bool.eq_false_iff.mpr c10
            subst c10
            have H1 : (some (-1)) = some r := by rw [if_neg (show ¬ (false = true) by decide)] at H; exact H
            clear H
            have H := H1
            clear H1
            obtain rfl := Option.some.inj H
            have hcz16_0 : wc.cell? ⟨gb184, 0, none⟩ = some (.int .i64 a0_0) := (blk_cell BK184.out 0).trans rfl
            have hcz16_1 : wc.cell? ⟨gb184, 1, none⟩ = some (.bool false) := (blk_cell BK184.out 1).trans rfl
            have hcz16_2 : wc.cell? ⟨gb184, 2, none⟩ = some (.int .u8 a0_2) := (blk_cell BK184.out 2).trans rfl
            have hcz16_3 : wc.cell? ⟨gb184, 3, none⟩ = some (.int .u8 a0_3) := (blk_cell BK184.out 3).trans rfl
            have hcz16_4 : wc.cell? ⟨gb184, 4, none⟩ = some (.int .u8 a0_4) := (blk_cell BK184.out 4).trans rfl
            have hcz16_5 : wc.cell? ⟨gb184, 5, none⟩ = some (.bool a0_5) := (blk_cell BK184.out 5).trans rfl
            have hfz16_0 := blk_frozen BK184.out 0
            have hfz16_1 := blk_frozen BK184.out 1
            have hfz16_2 := blk_frozen BK184.out 2
            have hfz16_3 := blk_frozen BK184.out 3
            have hfz16_4 := blk_frozen BK184.out 4
            have hfz16_5 := blk_frozen BK184.out 5
            go_wp2
            go_ret
            exact ⟨by first | rfl | (simp [errW_none, errW_some] <;> rfl) | (simp [*, errW_none, errW_some] <;> rfl), by repeat (first | (with_reducible first | exact HB.out | apply below_alloc | apply pw_below_drewN | apply below_drew1 | refine below_set ?_ GE184.out) | exact HB.out)⟩
        · rw [if_neg c9] at H
          have c9b0 : (a0_0 == 1) = false := beq_eq_false_iff_ne.mpr c9
          have c9b1 : (a0_0 != 1) = true := bne_iff_ne.mpr c9
          by_cases c17 : a0_0 = 3
          · rw [if_pos c17] at H
            have c17b0 : (a0_0 == 3) = true := beq_iff_eq.mpr c17
            have c17b1 : (a0_0 != 3) = false := bne_eq_false_iff_eq.mpr c17
            clear c17
            by_cases c18 : a0_1 = true
            · subst c18
              have H1 : (if a0_4 > 7 then (some (-1)) else (if a2 = 0 then (none) else (some (Int.tmod (wrap64 ((wrap64 ((wrap64 (8192 * (wrap64 (a0_4)))) + (wrap64 (a1)))) - 40960)) a2)))) = some r := by rw [if_pos rfl] at H; exact H
              clear H
              have H := H1
              clear H1
              by_cases c19 : a0_4 > 7
              · rw [if_pos c19] at H
                have c19b0 : decide (7 < a0_4) = true := decide_eq_true c19
                clear c19
                obtain rfl := Option.some.inj H
                have hcz20_0 : wc.cell? ⟨gb184, 0, none⟩ = some (.int .i64 a0_0) := (blk_cell BK184.out 0).trans rfl
                have hcz20_1 : wc.cell? ⟨gb184, 1, none⟩ = some (.bool true) := (blk_cell BK184.out 1).trans rfl
                have hcz20_2 : wc.cell? ⟨gb184, 2, none⟩ = some (.int .u8 a0_2) := (blk_cell BK184.out 2).trans rfl
                have hcz20_3 : wc.cell? ⟨gb184, 3, none⟩ = some (.int .u8 a0_3) := (blk_cell BK184.out 3).trans rfl
                have hcz20_4 : wc.cell? ⟨gb184, 4, none⟩ = some (.int .u8 a0_4) := (blk_cell BK184.out 4).trans rfl
                have hcz20_5 : wc.cell? ⟨gb184, 5, none⟩ = some (.bool a0_5) := (blk_cell BK184.out 5).trans rfl
                have hfz20_0 := blk_frozen BK184.out 0
                have hfz20_1 := blk_frozen BK184.out 1
                have hfz20_2 := blk_frozen BK184.out 2
                have hfz20_3 := blk_frozen BK184.out 3
                have hfz20_4 := blk_frozen BK184.out 4
                have hfz20_5 := blk_frozen BK184.out 5
                go_wp2
                go_ret
                exact ⟨by first | rfl | (simp [errW_none, errW_some] <;> rfl) | (simp [*, errW_none, errW_some] <;> rfl), by repeat (first | (with_reducible first | exact HB.out | apply below_alloc | apply pw_below_drewN | apply below_drew1 | refine below_set ?_ GE184.out) | exact HB.out)⟩
              · rw [if_neg c19] at H
                have c19b0 : decide (7 < a0_4) = false := decide_eq_false c19
                clear c19
                by_cases c21 : a2 = 0
                · rw [if_pos c21] at H
                  exact absurd H (by simp)
                · rw [if_neg c21] at H
                  have c21b0 : (a2 == 0) = false := beq_eq_false_iff_ne.mpr c21
                  have c21b1 : (a2 != 0) = true := bne_iff_ne.mpr c21
                  obtain rfl := Option.some.inj H
                  have hcz22_0 : wc.cell? ⟨gb184, 0, none⟩ = some (.int .i64 a0_0) := (blk_cell BK184.out 0).trans rfl
                  have hcz22_1 : wc.cell? ⟨gb184, 1, none⟩ = some (.bool true) := (blk_cell BK184.out 1).trans rfl
                  have hcz22_2 : wc.cell? ⟨gb184, 2, none⟩ = some (.int .u8 a0_2) := (blk_cell BK184.out 2).trans rfl
                  have hcz22_3 : wc.cell? ⟨gb184, 3, none⟩ = some (.int .u8 a0_3) := (blk_cell BK184.out 3).trans rfl
                  have hcz22_4 : wc.cell? ⟨gb184, 4, none⟩ = some (.int .u8 a0_4) := (blk_cell BK184.out 4).trans rfl
                  have hcz22_5 : wc.cell? ⟨gb184, 5, none⟩ = some (.bool a0_5) := (blk_cell BK184.out 5).trans rfl
                  have hfz22_0 := blk_frozen BK184.out 0
                  have hfz22_1 := blk_frozen BK184.out 1
                  have hfz22_2 := blk_frozen BK184.out 2
                  have hfz22_3 := blk_frozen BK184.out 3
                  have hfz22_4 := blk_frozen BK184.out 4
                  have hfz22_5 := blk_frozen BK184.out 5
                  go_wp2
                  go_ret
                  exact ⟨by first | rfl | (simp [errW_none, errW_some] <;> rfl) | (simp [*, errW_none, errW_some] <;> rfl), by repeat (first | (with_reducible first | exact HB.out | apply below_alloc | apply pw_below_drewN | apply below_drew1 | refine below_set ?_ GE184.out) | exact HB.out)⟩
            · replace c18 := Bool.eq_false_iff.mpr c18
              subst c18
              have H1 : (some (-1)) = some r := by rw [if_neg (show ¬ (false = true) by decide)] at H; exact H
              clear H
              have H := H1
              clear H1
              obtain rfl := Option.some.inj H
              have hcz23_0 : wc.cell? ⟨gb184, 0, none⟩ = some (.int .i64 a0_0) := (blk_cell BK184.out 0).trans rfl
              have hcz23_1 : wc.cell? ⟨gb184, 1, none⟩ = some (.bool false) := (blk_cell BK184.out 1).trans rfl
              have hcz23_2 : wc.cell? ⟨gb184, 2, none⟩ = some (.int .u8 a0_2) := (blk_cell BK184.out 2).trans rfl
              have hcz23_3 : wc.cell? ⟨gb184, 3, none⟩ = some (.int .u8 a0_3) := (blk_cell BK184.out 3).trans rfl
              have hcz23_4 : wc.cell? ⟨gb184, 4, none⟩ = some (.int .u8 a0_4) := (blk_cell BK184.out 4).trans rfl
              have hcz23_5 : wc.cell? ⟨gb184, 5, none⟩ = some (.bool a0_5) := (blk_cell BK184.out 5).trans rfl
              have hfz23_0 := blk_frozen BK184.out 0
              have hfz23_1 := blk_frozen BK184.out 1
              have hfz23_2 := blk_frozen BK184.out 2
              have hfz23_3 := blk_frozen BK184.out 3
              have hfz23_4 := blk_frozen BK184.out 4
              have hfz23_5 := blk_frozen BK184.out 5
              go_wp2
              go_ret
              exact ⟨by first | rfl | (simp [errW_none, errW_some] <;> rfl) | (simp [*, errW_none, errW_some] <;> rfl), by repeat (first | (with_reducible first | exact HB.out | apply below_alloc | apply pw_below_drewN | apply below_drew1 | refine below_set ?_ GE184.out) | exact HB.out)⟩
          · rw [if_neg c17] at H
            have c17b0 : (a0_0 == 3) = false := beq_eq_false_iff_ne.mpr c17
            have c17b1 : (a0_0 != 3) = true := bne_iff_ne.mpr c17
            by_cases c24 : a0_0 = 5
            · rw [if_pos c24] at H
              have c24b0 : (a0_0 == 5) = true := beq_iff_eq.mpr c24
              have c24b1 : (a0_0 != 5) = false := bne_eq_false_iff_eq.mpr c24
              clear c24
              by_cases c25 : a0_1 = true
              · subst c25
                have H1 : (if a2 = 0 then (none) else (some (Int.tmod (wrap64 ((wrap64 ((wrap64 (8192 * (wrap64 (a0_4)))) + (wrap64 (a1)))) - 40960)) a2))) = some r := by rw [if_pos rfl] at H; exact H
                clear H
                have H := H1
                clear H1
                by_cases c26 : a2 = 0
                · rw [if_pos c26] at H
                  exact absurd H (by simp)
                · rw [if_neg c26] at H
                  have c26b0 : (a2 == 0) = false := beq_eq_false_iff_ne.mpr c26
                  have c26b1 : (a2 != 0) = true := bne_iff_ne.mpr c26
                  obtain rfl := Option.some.inj H
                  have hcz27_0 : wc.cell? ⟨gb184, 0, none⟩ = some (.int .i64 a0_0) := (blk_cell BK184.out 0).trans rfl
                  have hcz27_1 : wc.cell? ⟨gb184, 1, none⟩ = some (.bool true) := (blk_cell BK184.out 1).trans rfl
                  have hcz27_2 : wc.cell? ⟨gb184, 2, none⟩ = some (.int .u8 a0_2) := (blk_cell BK184.out 2).trans rfl
                  have hcz27_3 : wc.cell? ⟨gb184, 3, none⟩ = some (.int .u8 a0_3) := (blk_cell BK184.out 3).trans rfl
                  have hcz27_4 : wc.cell? ⟨gb184, 4, none⟩ = some (.int .u8 a0_4) := (blk_cell BK184.out 4).trans rfl
                  have hcz27_5 : wc.cell? ⟨gb184, 5, none⟩ = some (.bool a0_5) := (blk_cell BK184.out 5).trans rfl
                  have hfz27_0 := blk_frozen BK184.out 0
                  have hfz27_1 := blk_frozen BK184.out 1
                  have hfz27_2 := blk_frozen BK184.out 2
                  have hfz27_3 := blk_frozen BK184.out 3
                  have hfz27_4 := blk_frozen BK184.out 4
                  have hfz27_5 := blk_frozen BK184.out 5
                  go_wp2
                  go_ret
                  exact ⟨by first | rfl | (simp [errW_none, errW_some] <;> rfl) | (simp [*, errW_none, errW_some] <;> rfl), by repeat (first | (with_reducible first | exact HB.out | apply below_alloc | apply pw_below_drewN | apply below_drew1 | refine below_set ?_ GE184.out) | exact HB.out)⟩
              · replace c25 := Bool.eq_false_iff.mpr c25
                subst c25
                have H1 : (some (-1)) = some r := by rw [if_neg (show ¬ (false = true) by decide)] at H; exact H
                clear H
                have H := H1
                clear H1
                obtain rfl := Option.some.inj H
                have hcz28_0 : wc.cell? ⟨gb184, 0, none⟩ = some (.int .i64 a0_0) := (blk_cell BK184.out 0).trans rfl
                have hcz28_1 : wc.cell? ⟨gb184, 1, none⟩ = some (.bool false) := (blk_cell BK184.out 1).trans rfl
                have hcz28_2 : wc.cell? ⟨gb184, 2, none⟩ = some (.int .u8 a0_2) := (blk_cell BK184.out 2).trans rfl
                have hcz28_3 : wc.cell? ⟨gb184, 3, none⟩ = some (.int .u8 a0_3) := (blk_cell BK184.out 3).trans rfl
                have hcz28_4 : wc.cell? ⟨gb184, 4, none⟩ = some (.int .u8 a0_4) := (blk_cell BK184.out 4).trans rfl
                have hcz28_5 : wc.cell? ⟨gb184, 5, none⟩ = some (.bool a0_5) := (blk_cell BK184.out 5).trans rfl
                have hfz28_0 := blk_frozen BK184.out 0
                have hfz28_1 := blk_frozen BK184.out 1
                have hfz28_2 := blk_frozen BK184.out 2
                have hfz28_3 := blk_frozen BK184.out 3
                have hfz28_4 := blk_frozen BK184.out 4
                have hfz28_5 := blk_frozen BK184.out 5
                go_wp2
                go_ret
                exact ⟨by first | rfl | (simp [errW_none, errW_some] <;> rfl) | (simp [*, errW_none, errW_some] <;> rfl), by repeat (first | (with_reducible first | exact HB.out | apply below_alloc | apply pw_below_drewN | apply below_drew1 | refine below_set ?_ GE184.out) | exact HB.out)⟩
            · rw [if_neg c24] at H
              have c24b0 : (a0_0 == 5) = false := beq_eq_false_iff_ne.mpr c24
              have c24b1 : (a0_0 != 5) = true := bne_iff_ne.mpr c24
              by_cases c29 : a2 = 0
              · rw [if_pos c29] at H
                exact absurd H (by simp)
              · rw [if_neg c29] at H
                have c29b0 : (a2 == 0) = false := beq_eq_false_iff_ne.mpr c29
                have c29b1 : (a2 != 0) = true := bne_iff_ne.mpr c29
                obtain rfl := Option.some.inj H
                have hcz30_0 : wc.cell? ⟨gb184, 0, none⟩ = some (.int .i64 a0_0) := (blk_cell BK184.out 0).trans rfl
                have hcz30_1 : wc.cell? ⟨gb184, 1, none⟩ = some (.bool a0_1) := (blk_cell BK184.out 1).trans rfl
                have hcz30_2 : wc.cell? ⟨gb184, 2, none⟩ = some (.int .u8 a0_2) := (blk_cell BK184.out 2).trans rfl
                have hcz30_3 : wc.cell? ⟨gb184, 3, none⟩ = some (.int .u8 a0_3) := (blk_cell BK184.out 3).trans rfl
                have hcz30_4 : wc.cell? ⟨gb184, 4, none⟩ = some (.int .u8 a0_4) := (blk_cell BK184.out 4).trans rfl
                have hcz30_5 : wc.cell? ⟨gb184, 5, none⟩ = some (.bool a0_5) := (blk_cell BK184.out 5).trans rfl
                have hfz30_0 := blk_frozen BK184.out 0
                have hfz30_1 := blk_frozen BK184.out 1
                have hfz30_2 := blk_frozen BK184.out 2
                have hfz30_3 := blk_frozen BK184.out 3
                have hfz30_4 := blk_frozen BK184.out 4
                have hfz30_5 := blk_frozen BK184.out 5
                go_wp2
                go_ret
                exact ⟨by first | rfl | (simp [errW_none, errW_some] <;> rfl) | (simp [*, errW_none, errW_some] <;> rfl), by repeat (first | (with_reducible first | exact HB.out | apply below_alloc | apply pw_below_drewN | apply below_drew1 | refine below_set ?_ GE184.out) | exact HB.out)⟩

end Go.Proofs.Ytkogdocpldfmnaa.G
