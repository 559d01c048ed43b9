/- What the proof of the statement CartNews stands on, part 6. (Packed by pack.py out of this session's texts.) -/
import Derived.Deep.MidRow
import Derived.Handy
import Derived.Test.YtmjjojbedllmgaaQCartNews0
import Derived.Test.YtmjjojbedllmgaaQCartNews1
import Derived.Test.YtmjjojbedllmgaaQCartNews3
import Derived.Test.YtmjjojbedllmgaaQCartNews4
import Derived.Test.YtmjjojbedllmgaaQCartNews5
set_option linter.unusedVariables false
set_option linter.unusedSimpArgs false
set_option maxRecDepth 100000
set_option maxHeartbeats 8000000
section
namespace Go.Proofs.Ytmjjojbedllmgaa.G
open Go.RowKit Go.Proofs.YtmjjojbedllmgaaW.PrintWords Go.Proofs.YtmjjojbedllmgaaW.PrintLast Go.Proofs.YtmjjojbedllmgaaW.PrintMore
def whirligigref08_Ram.j0 : Nat → Int → Int → Bool → Int → Bool → Int → Int → Int → Bool → Option (Int)
 | 0, _, _, _, _, _, _, _, _, _ => none
 | k + 1, x1, x2, x14, x249000, x249001, x249002, x249003, x249004, x249005 => if x14 = true then (some (-1)) else (if x249000 = 1 then (if x249001 = true then (if x249005 = true then (if x2 = 0 then (none) else (some (Int.tmod (wrap64 ((wrap64 ((wrap64 (8192 * (wrap64 (x249003)))) + (wrap64 (x1)))) - 40960)) x2))) else (if x2 = 0 then (none) else (some (Int.tmod (wrap64 ((wrap64 ((8192 * 0) + (wrap64 (x1)))) - 40960)) x2)))) else (some (-1))) else (if x249000 = 3 then (if x249001 = true then (if x249004 > 7 then (some (-1)) else (if x2 = 0 then (none) else (some (Int.tmod (wrap64 ((wrap64 ((wrap64 (8192 * (wrap64 (x249004)))) + (wrap64 (x1)))) - 40960)) x2)))) else (some (-1))) else (if x249000 = 5 then (if x249001 = true then (if x2 = 0 then (none) else (some (Int.tmod (wrap64 ((wrap64 ((wrap64 (8192 * (wrap64 (x249004)))) + (wrap64 (x1)))) - 40960)) x2))) else (some (-1))) else (if x2 = 0 then (none) else (some (Int.tmod (wrap64 ((wrap64 ((8192 * 0) + (wrap64 (x1)))) - 40960)) x2))))))
def whirligigref08_Ram.f (k : Nat) (a0_0 : Int) (a0_1 : Bool) (a0_2 : Int) (a0_3 : Int) (a0_4 : Int) (a0_5 : Bool) (a1 : Int) (a2 : Int) : Option (Int) := if a2 < 1 then (whirligigref08_Ram.j0 k a1 a2 true a0_0 a0_1 a0_2 a0_3 a0_4 a0_5) else ((whirligigref08_window.f a1).bind fun t249 => (whirligigref08_Ram.j0 k a1 a2 (!t249) a0_0 a0_1 a0_2 a0_3 a0_4 a0_5))
theorem whirligigref08_Ram.calls (k : Nat) (a0_0 : Int) (a0_1 : Bool) (a0_2 : Int) (a0_3 : Int) (a0_4 : Int) (a0_5 : Bool) (a1 : Int) (a2 : Int) (r : Int) (w : World) (h : whirligigref08_Ram.f k a0_0 a0_1 a0_2 a0_3 a0_4 a0_5 a1 a2 = some r) :
  Calls Try.prog 40 #[.agg #[.int .i64 a0_0, .bool a0_1, .int .u8 a0_2, .int .u8 a0_3, .int .u8 a0_4, .bool a0_5], .int .u16 a1, .int .i64 a2] w fun e w' => e = .returned (.int .i64 r) ∧ Below w.heap.size w w' := by
 have hu32 := Try.underlying32
 have HB := Aside0.mk (Below.refl w.heap.size w)
 have H : (if a2 < 1 then (whirligigref08_Ram.j0 k a1 a2 true a0_0 a0_1 a0_2 a0_3 a0_4 a0_5) else ((whirligigref08_window.f a1).bind fun t249 => (whirligigref08_Ram.j0 k a1 a2 (!t249) a0_0 a0_1 a0_2 a0_3 a0_4 a0_5))) = some r := h
 clear h
 have HC4 := Aside0.mk H
 clear H
 go_enter Try.func40, Try.ntmps40
 go_upto_region 1 with (first | ((with_reducible refine gate_dst (N := 3) rfl ?_); refine box_event ?hg (N := 3) ?hd (cs := #[.int .i64 a0_0, .bool a0_1, .int .u8 a0_2, .int .u8 a0_3, .int .u8 a0_4, .bool a0_5]) (t := 32) ?hr ?_; (case hd => rfl); (case hg => rfl); (case hr => first | (go_simp; done) | (go_simp; rfl)); intro gb248 hg w5 hbox hb; have n0_ := Aside0.mk (below_step (by repeat (first | (with_reducible first | exact HB.out | apply below_alloc | apply pw_below_drewN | apply below_drew1) | exact HB.out)) hb); have n1_ := Aside0.mk (hbox); have n2_ := Aside0.mk ((by rw [hg]; exact (below_size (by repeat (first | (with_reducible first | exact HB.out | apply below_alloc | apply pw_below_drewN | apply below_drew1) | exact HB.out))) : w.heap.size ≤ gb248)); have n3_ := Aside0.mk ((by rw [hg]; exact (below_size (by repeat (first | (with_reducible first | exact HB.out | apply below_alloc | apply pw_below_drewN | apply below_drew1) | exact HB.out))) : w.heap.size ≤ gb248)); clear HB; have HB := n0_; have BK248 := n1_; have GW248 := n2_; have GE248 := n3_; clear n0_ n1_ n2_ n3_; clear hb hbox hg))
 (try simp only [Act.put, List.setIfInBounds_toArray, List.set_cons_zero, List.set_cons_succ])
 go_cut [14] (fun v14 wc => ∃ (kq : Nat) (x14_3 : Bool), v14 = .bool x14_3 ∧ Aside0 (whirligigref08_Ram.j0 kq a1 a2 x14_3 a0_0 a0_1 a0_2 a0_3 a0_4 a0_5 = some r) ∧ Aside0 (kq ≤ k) ∧ Aside0 (wc.heap[gb248]? = some (.cells #[.int .i64 a0_0, .bool a0_1, .int .u8 a0_2, .int .u8 a0_3, .int .u8 a0_4, .bool a0_5] 32 (0, 0))) ∧ Aside0 (Below w.heap.size w wc))
 case first =>
  have H := HC4.out
  clear HC4
  by_cases c6 : a2 < 1
  ·rw [if_pos c6] at H
   have c6b0 : decide (a2 < 1) = true := decide_eq_true c6
   clear c6
   (first | rw [c6b0] | (simp only [i64_w, i32_w]; rw [c6b0]) | skip)
   have H' := Aside0.mk H
   clear H
   go_wp2
   go_meet
   case rel => exact ⟨_, (true), (by first | rfl | (simp; done) | (simp [*]; done)), H', ⟨by first | omega | exact Nat.le_refl _⟩, ⟨by (with_reducible repeat (first | refine blk_drewN ?_ _ | refine blk_drew ?_ | refine blk_alloc ?_ _)); exact BK248.out⟩, ⟨by repeat (first | (with_reducible first | exact HB.out | apply below_alloc | apply pw_below_drewN | apply below_drew1 | refine below_set ?_ GE248.out) | exact HB.out)⟩⟩
  ·rw [if_neg c6] at H
   have c6b0 : decide (a2 < 1) = false := decide_eq_false c6
   clear c6
   (first | rw [c6b0] | (simp only [i64_w, i32_w]; rw [c6b0]) | skip)
   replace H := Option.bind_eq_some_iff.mp H
   obtain ⟨t249, A70, H⟩ := H
   replace H : (whirligigref08_Ram.j0 k a1 a2 (!t249) a0_0 a0_1 a0_2 a0_3 a0_4 a0_5) = some r := H
   have A7 := Aside0.mk A70
   clear A70
   have H' := Aside0.mk H
   clear H
   go_wp2_with (first | (go_at_call 73; (with_reducible refine (whirligigref08_window.calls a1 t249 _ A7.out).mono ?_); rintro e w' ⟨rfl, ⟨nd, rfl⟩⟩))
   go_meet
   case rel => exact ⟨_, (!t249), (by first | rfl | (simp; done) | (simp [*]; done)), H', ⟨by first | omega | exact Nat.le_refl _⟩, ⟨by (with_reducible repeat (first | refine blk_drewN ?_ _ | refine blk_drew ?_ | refine blk_alloc ?_ _)); exact BK248.out⟩, ⟨by repeat (first | (with_reducible first | exact HB.out | apply below_alloc | apply pw_below_drewN | apply below_drew1 | refine below_set ?_ GE248.out) | exact HB.out)⟩⟩
 case rest =>
  clear HC4
  try clear p2
  try clear c4
  try clear c6
  try clear c6b0
  obtain ⟨kq, x14_3, rfl, HA, HJ3, BK248, HB⟩ := hcut
  cases kq with
  | zero => exact absurd HA.out (by simp [whirligigref08_Ram.j0])
  | succ kj3 =>
   have H := HA.out
   clear HA
   simp only [whirligigref08_Ram.j0] at H
   by_cases c8 : x14_3 = true
   ·subst c8
    have H1 : (some (-1)) = some r := by rw [if_pos rfl] at H; exact H
    clear H
    have H := H1
    clear H1
    obtain rfl := Option.some.inj H
    go_wp2
    go_ret
    exact ⟨by first | rfl | (simp [errW_none, errW_some] <;> rfl) | (simp [*, errW_none, errW_some] <;> rfl), by repeat (first | (with_reducible first | exact HB.out | apply below_alloc | apply pw_below_drewN | apply below_drew1 | refine below_set ?_ GE248.out) | exact HB.out)⟩
   ·replace c8 := Bool.eq_false_iff.mpr c8
    subst c8
    have H1 : (if a0_0 = 1 then (if a0_1 = true then (if a0_5 = true then (if a2 = 0 then (none) else (some (Int.tmod (wrap64 ((wrap64 ((wrap64 (8192 * (wrap64 (a0_3)))) + (wrap64 (a1)))) - 40960)) a2))) else (if a2 = 0 then (none) else (some (Int.tmod (wrap64 ((wrap64 ((8192 * 0) + (wrap64 (a1)))) - 40960)) a2)))) else (some (-1))) else (if a0_0 = 3 then (if a0_1 = true then (if a0_4 > 7 then (some (-1)) else (if a2 = 0 then (none) else (some (Int.tmod (wrap64 ((wrap64 ((wrap64 (8192 * (wrap64 (a0_4)))) + (wrap64 (a1)))) - 40960)) a2)))) else (some (-1))) else (if a0_0 = 5 then (if a0_1 = true then (if a2 = 0 then (none) else (some (Int.tmod (wrap64 ((wrap64 ((wrap64 (8192 * (wrap64 (a0_4)))) + (wrap64 (a1)))) - 40960)) a2))) else (some (-1))) else (if a2 = 0 then (none) else (some (Int.tmod (wrap64 ((wrap64 ((8192 * 0) + (wrap64 (a1)))) - 40960)) a2)))))) = some r := by rw [if_neg (show ¬ (false = true) by decide)] at H; exact H
    clear H
    have H := H1
    clear H1
    by_cases c9 : a0_0 = 1
    ·rw [if_pos c9] at H
     have c9b0 : (a0_0 == 1) = true := beq_iff_eq.mpr c9
     have c9b1 : (a0_0 != 1) = false := bne_eq_false_iff_eq.mpr c9
     clear c9
     by_cases c10 : a0_1 = true
     ·subst c10
      have H1 : (if a0_5 = true then (if a2 = 0 then (none) else (some (Int.tmod (wrap64 ((wrap64 ((wrap64 (8192 * (wrap64 (a0_3)))) + (wrap64 (a1)))) - 40960)) a2))) else (if a2 = 0 then (none) else (some (Int.tmod (wrap64 ((wrap64 ((8192 * 0) + (wrap64 (a1)))) - 40960)) a2)))) = some r := by rw [if_pos rfl] at H; exact H
      clear H
      have H := H1
      clear H1
      by_cases c11 : a0_5 = true
      ·subst c11
       have H1 : (if a2 = 0 then (none) else (some (Int.tmod (wrap64 ((wrap64 ((wrap64 (8192 * (wrap64 (a0_3)))) + (wrap64 (a1)))) - 40960)) a2))) = some r := by rw [if_pos rfl] at H; exact H
       clear H
       have H := H1
       clear H1
       by_cases c12 : a2 = 0
       ·rw [if_pos c12] at H
        exact absurd H (by simp)
       ·rw [if_neg c12] at H
        have c12b0 : (a2 == 0) = false := beq_eq_false_iff_ne.mpr c12
        have c12b1 : (a2 != 0) = true := bne_iff_ne.mpr c12
        obtain rfl := Option.some.inj H
        have hcz13_0 : wc.cell? ⟨gb248, 0, none⟩ = some (.int .i64 a0_0) := (blk_cell BK248.out 0).trans rfl
        have hcz13_1 : wc.cell? ⟨gb248, 1, none⟩ = some (.bool true) := (blk_cell BK248.out 1).trans rfl
        have hcz13_2 : wc.cell? ⟨gb248, 2, none⟩ = some (.int .u8 a0_2) := (blk_cell BK248.out 2).trans rfl
        have hcz13_3 : wc.cell? ⟨gb248, 3, none⟩ = some (.int .u8 a0_3) := (blk_cell BK248.out 3).trans rfl
        have hcz13_4 : wc.cell? ⟨gb248, 4, none⟩ = some (.int .u8 a0_4) := (blk_cell BK248.out 4).trans rfl
        have hcz13_5 : wc.cell? ⟨gb248, 5, none⟩ = some (.bool true) := (blk_cell BK248.out 5).trans rfl
        have hfz13_0 := blk_frozen BK248.out 0
        have hfz13_1 := blk_frozen BK248.out 1
        have hfz13_2 := blk_frozen BK248.out 2
        have hfz13_3 := blk_frozen BK248.out 3
        have hfz13_4 := blk_frozen BK248.out 4
        have hfz13_5 := blk_frozen BK248.out 5
        go_wp2
        go_ret
        exact ⟨by first | rfl | (simp [errW_none, errW_some] <;> rfl) | (simp [*, errW_none, errW_some] <;> rfl), by repeat (first | (with_reducible first | exact HB.out | apply below_alloc | apply pw_below_drewN | apply below_drew1 | refine below_set ?_ GE248.out) | exact HB.out)⟩
      ·replace c11 := Bool.eq_false_iff.mpr c11
       subst c11
       have H1 : (if a2 = 0 then (none) else (some (Int.tmod (wrap64 ((wrap64 ((8192 * 0) + (wrap64 (a1)))) - 40960)) a2))) = some r := by rw [if_neg (show ¬ (false = true) by decide)] at H; exact H
       clear H
       have H := H1
       clear H1
       by_cases c14 : a2 = 0
       ·rw [if_pos c14] at H
        exact absurd H (by simp)
       ·rw [if_neg c14] at H
        have c14b0 : (a2 == 0) = false := beq_eq_false_iff_ne.mpr c14
        have c14b1 : (a2 != 0) = true := bne_iff_ne.mpr c14
        obtain rfl := Option.some.inj H
        have hcz15_0 : wc.cell? ⟨gb248, 0, none⟩ = some (.int .i64 a0_0) := (blk_cell BK248.out 0).trans rfl
        have hcz15_1 : wc.cell? ⟨gb248, 1, none⟩ = some (.bool true) := (blk_cell BK248.out 1).trans rfl
        have hcz15_2 : wc.cell? ⟨gb248, 2, none⟩ = some (.int .u8 a0_2) := (blk_cell BK248.out 2).trans rfl
        have hcz15_3 : wc.cell? ⟨gb248, 3, none⟩ = some (.int .u8 a0_3) := (blk_cell BK248.out 3).trans rfl
        have hcz15_4 : wc.cell? ⟨gb248, 4, none⟩ = some (.int .u8 a0_4) := (blk_cell BK248.out 4).trans rfl
        have hcz15_5 : wc.cell? ⟨gb248, 5, none⟩ = some (.bool false) := (blk_cell BK248.out 5).trans rfl
        have hfz15_0 := blk_frozen BK248.out 0
        have hfz15_1 := blk_frozen BK248.out 1
        have hfz15_2 := blk_frozen BK248.out 2
        have hfz15_3 := blk_frozen BK248.out 3
        have hfz15_4 := blk_frozen BK248.out 4
        have hfz15_5 := blk_frozen BK248.out 5
        go_wp2
        go_ret
        exact ⟨by first | rfl | (simp [errW_none, errW_some] <;> rfl) | (simp [*, errW_none, errW_some] <;> rfl), by repeat (first | (with_reducible first | exact HB.out | apply below_alloc | apply pw_below_drewN | apply below_drew1 | refine below_set ?_ GE248.out) | exact HB.out)⟩
     ·replace c10 := Bool.eq_false_iff.mpr c10
      subst c10
      have H1 : (some (-1)) = some r := by rw [if_neg (show ¬ (false = true) by decide)] at H; exact H
      clear H
      have H := H1
      clear H1
      obtain rfl := Option.some.inj H
      have hcz16_0 : wc.cell? ⟨gb248, 0, none⟩ = some (.int .i64 a0_0) := (blk_cell BK248.out 0).trans rfl
      have hcz16_1 : wc.cell? ⟨gb248, 1, none⟩ = some (.bool false) := (blk_cell BK248.out 1).trans rfl
      have hcz16_2 : wc.cell? ⟨gb248, 2, none⟩ = some (.int .u8 a0_2) := (blk_cell BK248.out 2).trans rfl
      have hcz16_3 : wc.cell? ⟨gb248, 3, none⟩ = some (.int .u8 a0_3) := (blk_cell BK248.out 3).trans rfl
      have hcz16_4 : wc.cell? ⟨gb248, 4, none⟩ = some (.int .u8 a0_4) := (blk_cell BK248.out 4).trans rfl
      have hcz16_5 : wc.cell? ⟨gb248, 5, none⟩ = some (.bool a0_5) := (blk_cell BK248.out 5).trans rfl
      have hfz16_0 := blk_frozen BK248.out 0
      have hfz16_1 := blk_frozen BK248.out 1
      have hfz16_2 := blk_frozen BK248.out 2
      have hfz16_3 := blk_frozen BK248.out 3
      have hfz16_4 := blk_frozen BK248.out 4
      have hfz16_5 := blk_frozen BK248.out 5
      go_wp2
      go_ret
      exact ⟨by first | rfl | (simp [errW_none, errW_some] <;> rfl) | (simp [*, errW_none, errW_some] <;> rfl), by repeat (first | (with_reducible first | exact HB.out | apply below_alloc | apply pw_below_drewN | apply below_drew1 | refine below_set ?_ GE248.out) | exact HB.out)⟩
    ·rw [if_neg c9] at H
     have c9b0 : (a0_0 == 1) = false := beq_eq_false_iff_ne.mpr c9
     have c9b1 : (a0_0 != 1) = true := bne_iff_ne.mpr c9
     by_cases c17 : a0_0 = 3
     ·rw [if_pos c17] at H
      have c17b0 : (a0_0 == 3) = true := beq_iff_eq.mpr c17
      have c17b1 : (a0_0 != 3) = false := bne_eq_false_iff_eq.mpr c17
      clear c17
      by_cases c18 : a0_1 = true
      ·subst c18
       have H1 : (if a0_4 > 7 then (some (-1)) else (if a2 = 0 then (none) else (some (Int.tmod (wrap64 ((wrap64 ((wrap64 (8192 * (wrap64 (a0_4)))) + (wrap64 (a1)))) - 40960)) a2)))) = some r := by rw [if_pos rfl] at H; exact H
       clear H
       have H := H1
       clear H1
       by_cases c19 : a0_4 > 7
       ·rw [if_pos c19] at H
        have c19b0 : decide (7 < a0_4) = true := decide_eq_true c19
        clear c19
        obtain rfl := Option.some.inj H
        have hcz20_0 : wc.cell? ⟨gb248, 0, none⟩ = some (.int .i64 a0_0) := (blk_cell BK248.out 0).trans rfl
        have hcz20_1 : wc.cell? ⟨gb248, 1, none⟩ = some (.bool true) := (blk_cell BK248.out 1).trans rfl
        have hcz20_2 : wc.cell? ⟨gb248, 2, none⟩ = some (.int .u8 a0_2) := (blk_cell BK248.out 2).trans rfl
        have hcz20_3 : wc.cell? ⟨gb248, 3, none⟩ = some (.int .u8 a0_3) := (blk_cell BK248.out 3).trans rfl
        have hcz20_4 : wc.cell? ⟨gb248, 4, none⟩ = some (.int .u8 a0_4) := (blk_cell BK248.out 4).trans rfl
        have hcz20_5 : wc.cell? ⟨gb248, 5, none⟩ = some (.bool a0_5) := (blk_cell BK248.out 5).trans rfl
        have hfz20_0 := blk_frozen BK248.out 0
        have hfz20_1 := blk_frozen BK248.out 1
        have hfz20_2 := blk_frozen BK248.out 2
        have hfz20_3 := blk_frozen BK248.out 3
        have hfz20_4 := blk_frozen BK248.out 4
        have hfz20_5 := blk_frozen BK248.out 5
        go_wp2
        go_ret
        exact ⟨by first | rfl | (simp [errW_none, errW_some] <;> rfl) | (simp [*, errW_none, errW_some] <;> rfl), by repeat (first | (with_reducible first | exact HB.out | apply below_alloc | apply pw_below_drewN | apply below_drew1 | refine below_set ?_ GE248.out) | exact HB.out)⟩
       ·rw [if_neg c19] at H
        have c19b0 : decide (7 < a0_4) = false := decide_eq_false c19
        clear c19
        by_cases c21 : a2 = 0
        ·rw [if_pos c21] at H
         exact absurd H (by simp)
        ·rw [if_neg c21] at H
         have c21b0 : (a2 == 0) = false := beq_eq_false_iff_ne.mpr c21
         have c21b1 : (a2 != 0) = true := bne_iff_ne.mpr c21
         obtain rfl := Option.some.inj H
         have hcz22_0 : wc.cell? ⟨gb248, 0, none⟩ = some (.int .i64 a0_0) := (blk_cell BK248.out 0).trans rfl
         have hcz22_1 : wc.cell? ⟨gb248, 1, none⟩ = some (.bool true) := (blk_cell BK248.out 1).trans rfl
         have hcz22_2 : wc.cell? ⟨gb248, 2, none⟩ = some (.int .u8 a0_2) := (blk_cell BK248.out 2).trans rfl
         have hcz22_3 : wc.cell? ⟨gb248, 3, none⟩ = some (.int .u8 a0_3) := (blk_cell BK248.out 3).trans rfl
         have hcz22_4 : wc.cell? ⟨gb248, 4, none⟩ = some (.int .u8 a0_4) := (blk_cell BK248.out 4).trans rfl
         have hcz22_5 : wc.cell? ⟨gb248, 5, none⟩ = some (.bool a0_5) := (blk_cell BK248.out 5).trans rfl
         have hfz22_0 := blk_frozen BK248.out 0
         have hfz22_1 := blk_frozen BK248.out 1
         have hfz22_2 := blk_frozen BK248.out 2
         have hfz22_3 := blk_frozen BK248.out 3
         have hfz22_4 := blk_frozen BK248.out 4
         have hfz22_5 := blk_frozen BK248.out 5
         go_wp2
         go_ret
         exact ⟨by first | rfl | (simp [errW_none, errW_some] <;> rfl) | (simp [*, errW_none, errW_some] <;> rfl), by repeat (first | (with_reducible first | exact HB.out | apply below_alloc | apply pw_below_drewN | apply below_drew1 | refine below_set ?_ GE248.out) | exact HB.out)⟩
      ·replace c18 := Bool.eq_false_iff.mpr c18
       subst c18
       have H1 : (some (-1)) = some r := by rw [if_neg (show ¬ (false = true) by decide)] at H; exact H
       clear H
       have H := H1
       clear H1
       obtain rfl := Option.some.inj H
       have hcz23_0 : wc.cell? ⟨gb248, 0, none⟩ = some (.int .i64 a0_0) := (blk_cell BK248.out 0).trans rfl
       have hcz23_1 : wc.cell? ⟨gb248, 1, none⟩ = some (.bool false) := (blk_cell BK248.out 1).trans rfl
       have hcz23_2 : wc.cell? ⟨gb248, 2, none⟩ = some (.int .u8 a0_2) := (blk_cell BK248.out 2).trans rfl
       have hcz23_3 : wc.cell? ⟨gb248, 3, none⟩ = some (.int .u8 a0_3) := (blk_cell BK248.out 3).trans rfl
       have hcz23_4 : wc.cell? ⟨gb248, 4, none⟩ = some (.int .u8 a0_4) := (blk_cell BK248.out 4).trans rfl
       have hcz23_5 : wc.cell? ⟨gb248, 5, none⟩ = some (.bool a0_5) := (blk_cell BK248.out 5).trans rfl
       have hfz23_0 := blk_frozen BK248.out 0
       have hfz23_1 := blk_frozen BK248.out 1
       have hfz23_2 := blk_frozen BK248.out 2
       have hfz23_3 := blk_frozen BK248.out 3
       have hfz23_4 := blk_frozen BK248.out 4
       have hfz23_5 := blk_frozen BK248.out 5
       go_wp2
       go_ret
       exact ⟨by first | rfl | (simp [errW_none, errW_some] <;> rfl) | (simp [*, errW_none, errW_some] <;> rfl), by repeat (first | (with_reducible first | exact HB.out | apply below_alloc | apply pw_below_drewN | apply below_drew1 | refine below_set ?_ GE248.out) | exact HB.out)⟩
     ·rw [if_neg c17] at H
      have c17b0 : (a0_0 == 3) = false := beq_eq_false_iff_ne.mpr c17
      have c17b1 : (a0_0 != 3) = true := bne_iff_ne.mpr c17
      by_cases c24 : a0_0 = 5
      ·rw [if_pos c24] at H
       have c24b0 : (a0_0 == 5) = true := beq_iff_eq.mpr c24
       have c24b1 : (a0_0 != 5) = false := bne_eq_false_iff_eq.mpr c24
       clear c24
       by_cases c25 : a0_1 = true
       ·subst c25
        have H1 : (if a2 = 0 then (none) else (some (Int.tmod (wrap64 ((wrap64 ((wrap64 (8192 * (wrap64 (a0_4)))) + (wrap64 (a1)))) - 40960)) a2))) = some r := by rw [if_pos rfl] at H; exact H
        clear H
        have H := H1
        clear H1
        by_cases c26 : a2 = 0
        ·rw [if_pos c26] at H
         exact absurd H (by simp)
        ·rw [if_neg c26] at H
         have c26b0 : (a2 == 0) = false := beq_eq_false_iff_ne.mpr c26
         have c26b1 : (a2 != 0) = true := bne_iff_ne.mpr c26
         obtain rfl := Option.some.inj H
         have hcz27_0 : wc.cell? ⟨gb248, 0, none⟩ = some (.int .i64 a0_0) := (blk_cell BK248.out 0).trans rfl
         have hcz27_1 : wc.cell? ⟨gb248, 1, none⟩ = some (.bool true) := (blk_cell BK248.out 1).trans rfl
         have hcz27_2 : wc.cell? ⟨gb248, 2, none⟩ = some (.int .u8 a0_2) := (blk_cell BK248.out 2).trans rfl
         have hcz27_3 : wc.cell? ⟨gb248, 3, none⟩ = some (.int .u8 a0_3) := (blk_cell BK248.out 3).trans rfl
         have hcz27_4 : wc.cell? ⟨gb248, 4, none⟩ = some (.int .u8 a0_4) := (blk_cell BK248.out 4).trans rfl
         have hcz27_5 : wc.cell? ⟨gb248, 5, none⟩ = some (.bool a0_5) := (blk_cell BK248.out 5).trans rfl
         have hfz27_0 := blk_frozen BK248.out 0
         have hfz27_1 := blk_frozen BK248.out 1
         have hfz27_2 := blk_frozen BK248.out 2
         have hfz27_3 := blk_frozen BK248.out 3
         have hfz27_4 := blk_frozen BK248.out 4
         have hfz27_5 := blk_frozen BK248.out 5
         go_wp2
         go_ret
         exact ⟨by first | rfl | (simp [errW_none, errW_some] <;> rfl) | (simp [*, errW_none, errW_some] <;> rfl), by repeat (first | (with_reducible first | exact HB.out | apply below_alloc | apply pw_below_drewN | apply below_drew1 | refine below_set ?_ GE248.out) | exact HB.out)⟩
       ·replace c25 := Bool.eq_false_iff.mpr c25
        subst c25
        have H1 : (some (-1)) = some r := by rw [if_neg (show ¬ (false = true) by decide)] at H; exact H
        clear H
        have H := H1
        clear H1
        obtain rfl := Option.some.inj H
        have hcz28_0 : wc.cell? ⟨gb248, 0, none⟩ = some (.int .i64 a0_0) := (blk_cell BK248.out 0).trans rfl
        have hcz28_1 : wc.cell? ⟨gb248, 1, none⟩ = some (.bool false) := (blk_cell BK248.out 1).trans rfl
        have hcz28_2 : wc.cell? ⟨gb248, 2, none⟩ = some (.int .u8 a0_2) := (blk_cell BK248.out 2).trans rfl
        have hcz28_3 : wc.cell? ⟨gb248, 3, none⟩ = some (.int .u8 a0_3) := (blk_cell BK248.out 3).trans rfl
        have hcz28_4 : wc.cell? ⟨gb248, 4, none⟩ = some (.int .u8 a0_4) := (blk_cell BK248.out 4).trans rfl
        have hcz28_5 : wc.cell? ⟨gb248, 5, none⟩ = some (.bool a0_5) := (blk_cell BK248.out 5).trans rfl
        have hfz28_0 := blk_frozen BK248.out 0
        have hfz28_1 := blk_frozen BK248.out 1
        have hfz28_2 := blk_frozen BK248.out 2
        have hfz28_3 := blk_frozen BK248.out 3
        have hfz28_4 := blk_frozen BK248.out 4
        have hfz28_5 := blk_frozen BK248.out 5
        go_wp2
        go_ret
        exact ⟨by first | rfl | (simp [errW_none, errW_some] <;> rfl) | (simp [*, errW_none, errW_some] <;> rfl), by repeat (first | (with_reducible first | exact HB.out | apply below_alloc | apply pw_below_drewN | apply below_drew1 | refine below_set ?_ GE248.out) | exact HB.out)⟩
      ·rw [if_neg c24] at H
       have c24b0 : (a0_0 == 5) = false := beq_eq_false_iff_ne.mpr c24
       have c24b1 : (a0_0 != 5) = true := bne_iff_ne.mpr c24
       by_cases c29 : a2 = 0
       ·rw [if_pos c29] at H
        exact absurd H (by simp)
       ·rw [if_neg c29] at H
        have c29b0 : (a2 == 0) = false := beq_eq_false_iff_ne.mpr c29
        have c29b1 : (a2 != 0) = true := bne_iff_ne.mpr c29
        obtain rfl := Option.some.inj H
        have hcz30_0 : wc.cell? ⟨gb248, 0, none⟩ = some (.int .i64 a0_0) := (blk_cell BK248.out 0).trans rfl
        have hcz30_1 : wc.cell? ⟨gb248, 1, none⟩ = some (.bool a0_1) := (blk_cell BK248.out 1).trans rfl
        have hcz30_2 : wc.cell? ⟨gb248, 2, none⟩ = some (.int .u8 a0_2) := (blk_cell BK248.out 2).trans rfl
        have hcz30_3 : wc.cell? ⟨gb248, 3, none⟩ = some (.int .u8 a0_3) := (blk_cell BK248.out 3).trans rfl
        have hcz30_4 : wc.cell? ⟨gb248, 4, none⟩ = some (.int .u8 a0_4) := (blk_cell BK248.out 4).trans rfl
        have hcz30_5 : wc.cell? ⟨gb248, 5, none⟩ = some (.bool a0_5) := (blk_cell BK248.out 5).trans rfl
        have hfz30_0 := blk_frozen BK248.out 0
        have hfz30_1 := blk_frozen BK248.out 1
        have hfz30_2 := blk_frozen BK248.out 2
        have hfz30_3 := blk_frozen BK248.out 3
        have hfz30_4 := blk_frozen BK248.out 4
        have hfz30_5 := blk_frozen BK248.out 5
        go_wp2
        go_ret
        exact ⟨by first | rfl | (simp [errW_none, errW_some] <;> rfl) | (simp [*, errW_none, errW_some] <;> rfl), by repeat (first | (with_reducible first | exact HB.out | apply below_alloc | apply pw_below_drewN | apply below_drew1 | refine below_set ?_ GE248.out) | exact HB.out)⟩
end Go.Proofs.Ytmjjojbedllmgaa.G
end
section
namespace Go.Proofs.Ytmjjojbedllmgaa.G
open Go.RowKit Go.Proofs.YtmjjojbedllmgaaW.PrintWords Go.Proofs.YtmjjojbedllmgaaW.PrintLast Go.Proofs.YtmjjojbedllmgaaW.PrintMore
def whirligigref08_Reg.f (a0_0 : Int) (a0_1 : Bool) (a0_2 : Int) (a0_3 : Int) (a0_4 : Int) (a0_5 : Bool) (a1 : Int) : Option (Int) := if a0_0 = 3 then (if a0_1 = true then ((whirligigref08_window.f a1).bind fun t235 => (if t235 = true then (if a0_4 ≥ 8 then (if a0_4 ≤ 12 then (some (wrap64 (a0_4))) else (some 0)) else (some 0)) else (some 0))) else (some 0)) else (some 0)
theorem whirligigref08_Reg.calls (a0_0 : Int) (a0_1 : Bool) (a0_2 : Int) (a0_3 : Int) (a0_4 : Int) (a0_5 : Bool) (a1 : Int) (r : Int) (w : World) (h : whirligigref08_Reg.f a0_0 a0_1 a0_2 a0_3 a0_4 a0_5 a1 = some r) :
  Calls Try.prog 71 #[.agg #[.int .i64 a0_0, .bool a0_1, .int .u8 a0_2, .int .u8 a0_3, .int .u8 a0_4, .bool a0_5], .int .u16 a1] w fun e w' => e = .returned (.int .i64 r) ∧ Below w.heap.size w w' := by
 have hu32 := Try.underlying32
 have HB := Aside0.mk (Below.refl w.heap.size w)
 have H : (if a0_0 = 3 then (if a0_1 = true then ((whirligigref08_window.f a1).bind fun t235 => (if t235 = true then (if a0_4 ≥ 8 then (if a0_4 ≤ 12 then (some (wrap64 (a0_4))) else (some 0)) else (some 0)) else (some 0))) else (some 0)) else (some 0)) = some r := h
 clear h
 by_cases c3 : a0_0 = 3
 case' _ =>
  rw [if_pos c3] at H
  have c3b0 : (a0_0 == 3) = true := beq_iff_eq.mpr c3
  have c3b1 : (a0_0 != 3) = false := bne_eq_false_iff_eq.mpr c3
  clear c3
  by_cases c4 : a0_1 = true
  case' _ =>
   subst c4
   have H1 : ((whirligigref08_window.f a1).bind fun t235 => (if t235 = true then (if a0_4 ≥ 8 then (if a0_4 ≤ 12 then (some (wrap64 (a0_4))) else (some 0)) else (some 0)) else (some 0))) = some r := by rw [if_pos rfl] at H; exact H
   clear H
   have H := H1
   clear H1
   replace H := Option.bind_eq_some_iff.mp H
   obtain ⟨t235, A50, H⟩ := H
   replace H : (if t235 = true then (if a0_4 ≥ 8 then (if a0_4 ≤ 12 then (some (wrap64 (a0_4))) else (some 0)) else (some 0)) else (some 0)) = some r := H
   have A5 := Aside0.mk A50
   clear A50
   by_cases c6 : t235 = true
   case' _ =>
    subst c6
    have H1 : (if a0_4 ≥ 8 then (if a0_4 ≤ 12 then (some (wrap64 (a0_4))) else (some 0)) else (some 0)) = some r := by rw [if_pos rfl] at H; exact H
    clear H
    have H := H1
    clear H1
    by_cases c7 : a0_4 ≥ 8
    case' _ =>
     rw [if_pos c7] at H
     have c7b0 : decide (8 ≤ a0_4) = true := decide_eq_true c7
     clear c7
     by_cases c8 : a0_4 ≤ 12
     case' _ =>
      rw [if_pos c8] at H
      have c8b0 : decide (a0_4 ≤ 12) = true := decide_eq_true c8
      clear c8
      obtain rfl := Option.some.inj H
     rotate_right
     case' _ =>
      rw [if_neg c8] at H
      have c8b0 : decide (a0_4 ≤ 12) = false := decide_eq_false c8
      clear c8
      obtain rfl := Option.some.inj H
    rotate_right
    case' _ =>
     rw [if_neg c7] at H
     have c7b0 : decide (8 ≤ a0_4) = false := decide_eq_false c7
     clear c7
     obtain rfl := Option.some.inj H
   rotate_right
   case' _ =>
    replace c6 := Bool.eq_false_iff.mpr c6
    subst c6
    have H1 : (some 0) = some r := by rw [if_neg (show ¬ (false = true) by decide)] at H; exact H
    clear H
    have H := H1
    clear H1
    obtain rfl := Option.some.inj H
  rotate_right
  case' _ =>
   replace c4 := Bool.eq_false_iff.mpr c4
   subst c4
   have H1 : (some 0) = some r := by rw [if_neg (show ¬ (false = true) by decide)] at H; exact H
   clear H
   have H := H1
   clear H1
   obtain rfl := Option.some.inj H
   go_enter Try.func71, Try.ntmps71
   go_wp2_with (first | ((with_reducible refine gate_dst (N := 2) rfl ?_); refine box_event ?hg (N := 2) ?hd (cs := #[.int .i64 a0_0, .bool false, .int .u8 a0_2, .int .u8 a0_3, .int .u8 a0_4, .bool a0_5]) (t := 32) ?hr ?_; (case hd => rfl); (case hg => rfl); (case hr => first | (go_simp; done) | (go_simp; rfl)); intro gb234 hg w900 hbox hb; have n0_ := Aside0.mk (below_step (by repeat (first | (with_reducible first | exact HB.out | apply below_alloc | apply pw_below_drewN | apply below_drew1) | exact HB.out)) hb); have n1_ := Aside0.mk (hbox); have n2_ := Aside0.mk ((by rw [hg]; exact (below_size (by repeat (first | (with_reducible first | exact HB.out | apply below_alloc | apply pw_below_drewN | apply below_drew1) | exact HB.out))) : w.heap.size ≤ gb234)); have n3_ := Aside0.mk ((by rw [hg]; exact (below_size (by repeat (first | (with_reducible first | exact HB.out | apply below_alloc | apply pw_below_drewN | apply below_drew1) | exact HB.out))) : w.heap.size ≤ gb234)); clear HB; have HB := n0_; have BK234 := n1_; have GW234 := n2_; have GE234 := n3_; clear n0_ n1_ n2_ n3_; clear hb hbox hg; have hcz901_0 : w900.cell? ⟨gb234, 0, none⟩ = some (.int .i64 a0_0) := (blk_cell BK234.out 0).trans rfl; have hcz901_1 : w900.cell? ⟨gb234, 1, none⟩ = some (.bool false) := (blk_cell BK234.out 1).trans rfl; have hcz901_2 : w900.cell? ⟨gb234, 2, none⟩ = some (.int .u8 a0_2) := (blk_cell BK234.out 2).trans rfl; have hcz901_3 : w900.cell? ⟨gb234, 3, none⟩ = some (.int .u8 a0_3) := (blk_cell BK234.out 3).trans rfl; have hcz901_4 : w900.cell? ⟨gb234, 4, none⟩ = some (.int .u8 a0_4) := (blk_cell BK234.out 4).trans rfl; have hcz901_5 : w900.cell? ⟨gb234, 5, none⟩ = some (.bool a0_5) := (blk_cell BK234.out 5).trans rfl; have hfz901_0 := blk_frozen BK234.out 0; have hfz901_1 := blk_frozen BK234.out 1; have hfz901_2 := blk_frozen BK234.out 2; have hfz901_3 := blk_frozen BK234.out 3; have hfz901_4 := blk_frozen BK234.out 4; have hfz901_5 := blk_frozen BK234.out 5))
   go_ret
   exact ⟨by first | rfl | (simp [errW_none, errW_some] <;> rfl) | (simp [*, errW_none, errW_some] <;> rfl), by repeat (first | (with_reducible first | exact HB.out | apply below_alloc | apply pw_below_drewN | apply below_drew1 | refine below_set ?_ GE234.out) | exact HB.out)⟩
 rotate_right
 case' _ =>
  rw [if_neg c3] at H
  have c3b0 : (a0_0 == 3) = false := beq_eq_false_iff_ne.mpr c3
  have c3b1 : (a0_0 != 3) = true := bne_iff_ne.mpr c3
  obtain rfl := Option.some.inj H
  go_enter Try.func71, Try.ntmps71
  go_wp2_with (first | ((with_reducible refine gate_dst (N := 2) rfl ?_); refine box_event ?hg (N := 2) ?hd (cs := #[.int .i64 a0_0, .bool a0_1, .int .u8 a0_2, .int .u8 a0_3, .int .u8 a0_4, .bool a0_5]) (t := 32) ?hr ?_; (case hd => rfl); (case hg => rfl); (case hr => first | (go_simp; done) | (go_simp; rfl)); intro gb234 hg w900 hbox hb; have n0_ := Aside0.mk (below_step (by repeat (first | (with_reducible first | exact HB.out | apply below_alloc | apply pw_below_drewN | apply below_drew1) | exact HB.out)) hb); have n1_ := Aside0.mk (hbox); have n2_ := Aside0.mk ((by rw [hg]; exact (below_size (by repeat (first | (with_reducible first | exact HB.out | apply below_alloc | apply pw_below_drewN | apply below_drew1) | exact HB.out))) : w.heap.size ≤ gb234)); have n3_ := Aside0.mk ((by rw [hg]; exact (below_size (by repeat (first | (with_reducible first | exact HB.out | apply below_alloc | apply pw_below_drewN | apply below_drew1) | exact HB.out))) : w.heap.size ≤ gb234)); clear HB; have HB := n0_; have BK234 := n1_; have GW234 := n2_; have GE234 := n3_; clear n0_ n1_ n2_ n3_; clear hb hbox hg; have hcz901_0 : w900.cell? ⟨gb234, 0, none⟩ = some (.int .i64 a0_0) := (blk_cell BK234.out 0).trans rfl; have hcz901_1 : w900.cell? ⟨gb234, 1, none⟩ = some (.bool a0_1) := (blk_cell BK234.out 1).trans rfl; have hcz901_2 : w900.cell? ⟨gb234, 2, none⟩ = some (.int .u8 a0_2) := (blk_cell BK234.out 2).trans rfl; have hcz901_3 : w900.cell? ⟨gb234, 3, none⟩ = some (.int .u8 a0_3) := (blk_cell BK234.out 3).trans rfl; have hcz901_4 : w900.cell? ⟨gb234, 4, none⟩ = some (.int .u8 a0_4) := (blk_cell BK234.out 4).trans rfl; have hcz901_5 : w900.cell? ⟨gb234, 5, none⟩ = some (.bool a0_5) := (blk_cell BK234.out 5).trans rfl; have hfz901_0 := blk_frozen BK234.out 0; have hfz901_1 := blk_frozen BK234.out 1; have hfz901_2 := blk_frozen BK234.out 2; have hfz901_3 := blk_frozen BK234.out 3; have hfz901_4 := blk_frozen BK234.out 4; have hfz901_5 := blk_frozen BK234.out 5))
  go_ret
  exact ⟨by first | rfl | (simp [errW_none, errW_some] <;> rfl) | (simp [*, errW_none, errW_some] <;> rfl), by repeat (first | (with_reducible first | exact HB.out | apply below_alloc | apply pw_below_drewN | apply below_drew1 | refine below_set ?_ GE234.out) | exact HB.out)⟩
 all_goals
  go_enter Try.func71, Try.ntmps71
  go_wp2_with (first | ((with_reducible refine gate_dst (N := 2) rfl ?_); refine box_event ?hg (N := 2) ?hd (cs := #[.int .i64 a0_0, .bool true, .int .u8 a0_2, .int .u8 a0_3, .int .u8 a0_4, .bool a0_5]) (t := 32) ?hr ?_; (case hd => rfl); (case hg => rfl); (case hr => first | (go_simp; done) | (go_simp; rfl)); intro gb234 hg w900 hbox hb; have n0_ := Aside0.mk (below_step (by repeat (first | (with_reducible first | exact HB.out | apply below_alloc | apply pw_below_drewN | apply below_drew1) | exact HB.out)) hb); have n1_ := Aside0.mk (hbox); have n2_ := Aside0.mk ((by rw [hg]; exact (below_size (by repeat (first | (with_reducible first | exact HB.out | apply below_alloc | apply pw_below_drewN | apply below_drew1) | exact HB.out))) : w.heap.size ≤ gb234)); have n3_ := Aside0.mk ((by rw [hg]; exact (below_size (by repeat (first | (with_reducible first | exact HB.out | apply below_alloc | apply pw_below_drewN | apply below_drew1) | exact HB.out))) : w.heap.size ≤ gb234)); clear HB; have HB := n0_; have BK234 := n1_; have GW234 := n2_; have GE234 := n3_; clear n0_ n1_ n2_ n3_; clear hb hbox hg; have hcz901_0 : w900.cell? ⟨gb234, 0, none⟩ = some (.int .i64 a0_0) := (blk_cell BK234.out 0).trans rfl; have hcz901_1 : w900.cell? ⟨gb234, 1, none⟩ = some (.bool true) := (blk_cell BK234.out 1).trans rfl; have hcz901_2 : w900.cell? ⟨gb234, 2, none⟩ = some (.int .u8 a0_2) := (blk_cell BK234.out 2).trans rfl; have hcz901_3 : w900.cell? ⟨gb234, 3, none⟩ = some (.int .u8 a0_3) := (blk_cell BK234.out 3).trans rfl; have hcz901_4 : w900.cell? ⟨gb234, 4, none⟩ = some (.int .u8 a0_4) := (blk_cell BK234.out 4).trans rfl; have hcz901_5 : w900.cell? ⟨gb234, 5, none⟩ = some (.bool a0_5) := (blk_cell BK234.out 5).trans rfl; have hfz901_0 := blk_frozen BK234.out 0; have hfz901_1 := blk_frozen BK234.out 1; have hfz901_2 := blk_frozen BK234.out 2; have hfz901_3 := blk_frozen BK234.out 3; have hfz901_4 := blk_frozen BK234.out 4; have hfz901_5 := blk_frozen BK234.out 5) | (go_at_call 73; (with_reducible refine (whirligigref08_window.calls _ _ _ A5.out).mono ?_); rintro e w' ⟨rfl, ⟨nd, rfl⟩⟩))
  go_ret
  exact ⟨by first | rfl | (simp [errW_none, errW_some] <;> rfl) | (simp [*, errW_none, errW_some] <;> rfl), by repeat (first | (with_reducible first | exact HB.out | apply below_alloc | apply pw_below_drewN | apply below_drew1 | refine below_set ?_ GE234.out) | exact HB.out)⟩
end Go.Proofs.Ytmjjojbedllmgaa.G
end
section
namespace Go.Proofs.Ytmjjojbedllmgaa.Pure
open Go.RowKit Go.Proofs.Ytmjjojbedllmgaa.G Go.Proofs.Ytmjjojbedllmgaa.Hand
open Go.Proofs.YtmjjojbedllmgaaW.PrintWords Go.Proofs.YtmjjojbedllmgaaW.PrintLast Go.Proofs.YtmjjojbedllmgaaW.PrintMore
theorem bank_same (k l h : Int) (md : Bool) (a : Int) (hl : 0 ≤ l ∧ l ≤ 255) (ha : 0 ≤ a ∧ a ≤ 65535) : bankF k l h md (a / 16384) = rbankF k l h md a := by
 unfold bankF rbankF
 rw [least_is l hl]
 by_cases c0 : a > 32767
 ·rw [if_pos c0, if_neg (by omega), if_neg (by omega)]
 rw [if_neg c0]
 by_cases c1 : a > 16383
 ·rw [if_neg (by omega), if_pos (by omega)]
  simp only [c1, if_true]
 ·rw [if_pos (by omega)]
  simp only [c1, if_false]
  by_cases k1 : k = 1
  ·rw [if_pos k1, if_pos k1]
  ·rw [if_neg k1, if_neg k1]
   split <;> (try rfl)
   split <;> rfl
theorem win_is (a : Int) : whirligigref08_window.f a = some (decide (a / 8192 = 5)) := by
 unfold whirligigref08_window.f
 by_cases c : a ≥ 40960
 ·rw [if_pos c]
  congr 1
  rw [decide_eq_decide]
  omega
 ·rw [if_neg c, decide_eq_false (by omega)]
theorem reg_same (k : Int) (o : Bool) (l h r : Int) (md : Bool) (a : Int) (ha : 0 ≤ a ∧ a ≤ 65535) : mapper_Reg.f k o l h r md a = whirligigref08_Reg.f k o l h r md a := by
 unfold mapper_Reg.f whirligigref08_Reg.f mapper_inside.f
 rw [win_is a, show ((a / 8192 == 5) = decide (a / 8192 = 5)) by rw [Bool.eq_iff_iff]; simp]
 simp only [Option.bind_some]
 split <;> (try rfl)
 split <;> (try rfl)
 split <;> (try rfl)
 by_cases c : r < 8
 ·rw [if_pos c, if_neg (show ¬ r ≥ 8 by omega)]
 ·rw [if_neg c, if_pos (show r ≥ 8 by omega)]
  by_cases c2 : r > 12
  ·rw [if_pos c2, if_neg (show ¬ r ≤ 12 by omega)]
  ·rw [if_neg c2, if_pos (show r ≤ 12 by omega)]
theorem ram_ref (k : Int) (o : Bool) (l h r : Int) (md : Bool) (a s : Int) (ha : 0 ≤ a ∧ a ≤ 65535) : whirligigref08_Ram.f 2 k o l h r md a s = some (ramF k o h r md a s) := by
 unfold whirligigref08_Ram.f
 rw [win_is a]
 simp only [Option.bind_some, whirligigref08_Ram.j0, if_true]
 unfold ramF ramR ramZ
 by_cases c0 : s < 1
 ·rw [if_pos c0]
  simp only [c0, if_true, ite_self]
 rw [if_neg c0]
 simp only [c0, if_false]
 by_cases c1 : a / 8192 = 5
 ·have hm : ∀ x : Int, Int.tmod (wrap64 ((wrap64 ((wrap64 (8192 * x)) + (wrap64 a))) - 40960)) s = Int.tmod (wrap64 (wrap64 (wrap64 (x * 8192) + a) - 40960)) s := by
   intro x; rw [Int.mul_comm, wrap64_in (x := a) (by omega)]
  have hz : Int.tmod (wrap64 ((wrap64 ((8192 * 0) + (wrap64 a))) - 40960)) s = (a - 40960) % s := by
   rw [wrap64_in (x := a) (by omega), show (8192 * 0 + a : Int) = a by omega, wrap64_in (x := a) (by omega), wrap64_in (x := a - 40960) (by omega), Int.tmod_eq_emod_of_nonneg (by omega)]
  rw [hz, hm, hm]
  simp only [c1, decide_true, Bool.not_true, Bool.false_eq_true, if_false, not_true_eq_false, show ¬ s = 0 by omega, if_true]
  by_cases k1 : k = 1
  ·subst k1; cases o <;> cases md <;> simp
  by_cases k3 : k = 3
  ·subst k3
   cases o
   ·simp
   ·by_cases hr : r < 8
    ·simp [hr, show ¬ r > 7 by omega]
    ·simp [hr, show r > 7 by omega]
  by_cases k5 : k = 5
  ·subst k5; cases o <;> simp
  ·simp [k1, k3, k5]
 ·simp only [c1, decide_false, Bool.not_false, if_true, not_false_eq_true, ite_self]
end Go.Proofs.Ytmjjojbedllmgaa.Pure
end
section
namespace Go.Proofs.Ytmjjojbedllmgaa.G
open Go.RowKit Go.Proofs.YtmjjojbedllmgaaW.PrintWords Go.Proofs.YtmjjojbedllmgaaW.PrintLast Go.Proofs.YtmjjojbedllmgaaW.PrintMore
def whirligigref08_New.f (a0 : Int) : Option (Int × Bool × Int × Int × Int × Bool × Int) := if a0 = 0 then (some (a0, false, 0, 0, 0, false, 0)) else (if a0 = 1 then (some (a0, false, 0, 0, 0, false, 0)) else (if a0 = 3 then (some (a0, false, 0, 0, 0, false, 0)) else (if a0 = 5 then (some (a0, false, 0, 0, 0, false, 0)) else (some (0, false, 0, 0, 0, false, 4)))))
theorem whirligigref08_New.calls (a0 : Int) (r1 : Int) (r2 : Bool) (r3 : Int) (r4 : Int) (r5 : Int) (r6 : Bool) (r7 : Int) (w : World) (h : whirligigref08_New.f a0 = some (r1, r2, r3, r4, r5, r6, r7)) :
  Calls Try.prog 31 #[.int .i64 a0] w fun e w' => e = .returned (.tuple #[.agg #[.int .i64 r1, .bool r2, .int .u8 r3, .int .u8 r4, .int .u8 r5, .bool r6], .int .i64 r7]) ∧ Below w.heap.size w w' := by
 have hu32 := Try.underlying32
 have HB := Aside0.mk (Below.refl w.heap.size w)
 have H : (if a0 = 0 then (some (a0, false, 0, 0, 0, false, 0)) else (if a0 = 1 then (some (a0, false, 0, 0, 0, false, 0)) else (if a0 = 3 then (some (a0, false, 0, 0, 0, false, 0)) else (if a0 = 5 then (some (a0, false, 0, 0, 0, false, 0)) else (some (0, false, 0, 0, 0, false, 4)))))) = some (r1, r2, r3, r4, r5, r6, r7) := h
 clear h
 by_cases c2 : a0 = 0
 case' _ =>
  rw [if_pos c2] at H
  have c2b0 : (a0 == 0) = true := beq_iff_eq.mpr c2
  have c2b1 : (a0 != 0) = false := bne_eq_false_iff_eq.mpr c2
  clear c2
  simp only [Option.some.injEq, Prod.mk.injEq] at H
  obtain ⟨rfl, rfl, rfl, rfl, rfl, rfl, rfl⟩ := H
 rotate_right
 case' _ =>
  rw [if_neg c2] at H
  have c2b0 : (a0 == 0) = false := beq_eq_false_iff_ne.mpr c2
  have c2b1 : (a0 != 0) = true := bne_iff_ne.mpr c2
  by_cases c5 : a0 = 1
  case' _ =>
   rw [if_pos c5] at H
   have c5b0 : (a0 == 1) = true := beq_iff_eq.mpr c5
   have c5b1 : (a0 != 1) = false := bne_eq_false_iff_eq.mpr c5
   clear c5
   simp only [Option.some.injEq, Prod.mk.injEq] at H
   obtain ⟨rfl, rfl, rfl, rfl, rfl, rfl, rfl⟩ := H
  rotate_right
  case' _ =>
   rw [if_neg c5] at H
   have c5b0 : (a0 == 1) = false := beq_eq_false_iff_ne.mpr c5
   have c5b1 : (a0 != 1) = true := bne_iff_ne.mpr c5
   by_cases c8 : a0 = 3
   case' _ =>
    rw [if_pos c8] at H
    have c8b0 : (a0 == 3) = true := beq_iff_eq.mpr c8
    have c8b1 : (a0 != 3) = false := bne_eq_false_iff_eq.mpr c8
    clear c8
    simp only [Option.some.injEq, Prod.mk.injEq] at H
    obtain ⟨rfl, rfl, rfl, rfl, rfl, rfl, rfl⟩ := H
   rotate_right
   case' _ =>
    rw [if_neg c8] at H
    have c8b0 : (a0 == 3) = false := beq_eq_false_iff_ne.mpr c8
    have c8b1 : (a0 != 3) = true := bne_iff_ne.mpr c8
    by_cases c11 : a0 = 5
    case' _ =>
     rw [if_pos c11] at H
     have c11b0 : (a0 == 5) = true := beq_iff_eq.mpr c11
     have c11b1 : (a0 != 5) = false := bne_eq_false_iff_eq.mpr c11
     clear c11
     simp only [Option.some.injEq, Prod.mk.injEq] at H
     obtain ⟨rfl, rfl, rfl, rfl, rfl, rfl, rfl⟩ := H
    rotate_right
    case' _ =>
     rw [if_neg c11] at H
     have c11b0 : (a0 == 5) = false := beq_eq_false_iff_ne.mpr c11
     have c11b1 : (a0 != 5) = true := bne_iff_ne.mpr c11
     simp only [Option.some.injEq, Prod.mk.injEq] at H
     obtain ⟨rfl, rfl, rfl, rfl, rfl, rfl, rfl⟩ := H
     go_enter Try.func31, Try.ntmps31
     go_wp2_with (first | ((with_reducible refine gate_dst (N := 2) rfl ?_); refine box_event ?hg (N := 2) ?hd (cs := #[.int .i64 0, .bool false, .int .u8 0, .int .u8 0, .int .u8 0, .bool false]) (t := 32) ?hr ?_; (case hd => rfl); (case hg => rfl); (case hr => first | (go_simp; done) | (go_simp; rfl)); intro gb207 hg w900 hbox hb; have n0_ := Aside0.mk (below_step (by repeat (first | (with_reducible first | exact HB.out | apply below_alloc | apply pw_below_drewN | apply below_drew1) | exact HB.out)) hb); have n1_ := Aside0.mk (hbox); have n2_ := Aside0.mk ((by rw [hg]; exact (below_size (by repeat (first | (with_reducible first | exact HB.out | apply below_alloc | apply pw_below_drewN | apply below_drew1) | exact HB.out))) : w.heap.size ≤ gb207)); have n3_ := Aside0.mk ((by rw [hg]; exact (below_size (by repeat (first | (with_reducible first | exact HB.out | apply below_alloc | apply pw_below_drewN | apply below_drew1) | exact HB.out))) : w.heap.size ≤ gb207)); clear HB; have HB := n0_; have BK207 := n1_; have GW207 := n2_; have GE207 := n3_; clear n0_ n1_ n2_ n3_; clear hb hbox hg; have hcz901_0 : w900.cell? ⟨gb207, 0, none⟩ = some (.int .i64 0) := (blk_cell BK207.out 0).trans rfl; have hcz901_1 : w900.cell? ⟨gb207, 1, none⟩ = some (.bool false) := (blk_cell BK207.out 1).trans rfl; have hcz901_2 : w900.cell? ⟨gb207, 2, none⟩ = some (.int .u8 0) := (blk_cell BK207.out 2).trans rfl; have hcz901_3 : w900.cell? ⟨gb207, 3, none⟩ = some (.int .u8 0) := (blk_cell BK207.out 3).trans rfl; have hcz901_4 : w900.cell? ⟨gb207, 4, none⟩ = some (.int .u8 0) := (blk_cell BK207.out 4).trans rfl; have hcz901_5 : w900.cell? ⟨gb207, 5, none⟩ = some (.bool false) := (blk_cell BK207.out 5).trans rfl; have hfz901_0 := blk_frozen BK207.out 0; have hfz901_1 := blk_frozen BK207.out 1; have hfz901_2 := blk_frozen BK207.out 2; have hfz901_3 := blk_frozen BK207.out 3; have hfz901_4 := blk_frozen BK207.out 4; have hfz901_5 := blk_frozen BK207.out 5))
     refine bodyPost_ret (results_ct rfl _ _ gb207 32 #[.int .i64 0, .bool false, .int .u8 0, .int .u8 0, .int .u8 0, .bool false] (0, 0) _ rfl (by (with_reducible repeat (first | refine blk_drewN ?_ _ | refine blk_drew ?_ | refine blk_alloc ?_ _)); refine blk_put (cs := #[.int .i64 0, .bool false, .int .u8 0, .int .u8 0, .int .u8 0, .bool false]) ?_ 5 _ rfl; (with_reducible repeat (first | refine blk_drewN ?_ _ | refine blk_drew ?_ | refine blk_alloc ?_ _)); refine blk_put (cs := #[.int .i64 0, .bool false, .int .u8 0, .int .u8 0, .int .u8 0, .bool false]) ?_ 4 _ rfl; (with_reducible repeat (first | refine blk_drewN ?_ _ | refine blk_drew ?_ | refine blk_alloc ?_ _)); refine blk_put (cs := #[.int .i64 0, .bool false, .int .u8 0, .int .u8 0, .int .u8 0, .bool false]) ?_ 3 _ rfl; (with_reducible repeat (first | refine blk_drewN ?_ _ | refine blk_drew ?_ | refine blk_alloc ?_ _)); refine blk_put (cs := #[.int .i64 0, .bool false, .int .u8 0, .int .u8 0, .int .u8 0, .bool false]) ?_ 2 _ rfl; (with_reducible repeat (first | refine blk_drewN ?_ _ | refine blk_drew ?_ | refine blk_alloc ?_ _)); refine blk_put (cs := #[.int .i64 0, .bool false, .int .u8 0, .int .u8 0, .int .u8 0, .bool false]) ?_ 1 _ rfl; (with_reducible repeat (first | refine blk_drewN ?_ _ | refine blk_drew ?_ | refine blk_alloc ?_ _)); refine blk_put (cs := #[.int .i64 0, .bool false, .int .u8 0, .int .u8 0, .int .u8 0, .bool false]) ?_ 0 _ rfl; (with_reducible repeat (first | refine blk_drewN ?_ _ | refine blk_drew ?_ | refine blk_alloc ?_ _)); exact BK207.out) Try.underlying32 rfl (by kernel_rfl)) rfl ?_
     exact ⟨by first | rfl | (simp [errW_none, errW_some] <;> rfl) | (simp [*, errW_none, errW_some] <;> rfl), by repeat (first | (with_reducible first | exact HB.out | apply below_alloc | apply pw_below_drewN | apply below_drew1 | refine below_set ?_ GE207.out) | exact HB.out)⟩
 all_goals
  go_enter Try.func31, Try.ntmps31
  go_wp2_with (first | ((with_reducible refine gate_dst (N := 2) rfl ?_); refine box_event ?hg (N := 2) ?hd (cs := #[.int .i64 0, .bool false, .int .u8 0, .int .u8 0, .int .u8 0, .bool false]) (t := 32) ?hr ?_; (case hd => rfl); (case hg => rfl); (case hr => first | (go_simp; done) | (go_simp; rfl)); intro gb207 hg w900 hbox hb; have n0_ := Aside0.mk (below_step (by repeat (first | (with_reducible first | exact HB.out | apply below_alloc | apply pw_below_drewN | apply below_drew1) | exact HB.out)) hb); have n1_ := Aside0.mk (hbox); have n2_ := Aside0.mk ((by rw [hg]; exact (below_size (by repeat (first | (with_reducible first | exact HB.out | apply below_alloc | apply pw_below_drewN | apply below_drew1) | exact HB.out))) : w.heap.size ≤ gb207)); have n3_ := Aside0.mk ((by rw [hg]; exact (below_size (by repeat (first | (with_reducible first | exact HB.out | apply below_alloc | apply pw_below_drewN | apply below_drew1) | exact HB.out))) : w.heap.size ≤ gb207)); clear HB; have HB := n0_; have BK207 := n1_; have GW207 := n2_; have GE207 := n3_; clear n0_ n1_ n2_ n3_; clear hb hbox hg; have hcz901_0 : w900.cell? ⟨gb207, 0, none⟩ = some (.int .i64 0) := (blk_cell BK207.out 0).trans rfl; have hcz901_1 : w900.cell? ⟨gb207, 1, none⟩ = some (.bool false) := (blk_cell BK207.out 1).trans rfl; have hcz901_2 : w900.cell? ⟨gb207, 2, none⟩ = some (.int .u8 0) := (blk_cell BK207.out 2).trans rfl; have hcz901_3 : w900.cell? ⟨gb207, 3, none⟩ = some (.int .u8 0) := (blk_cell BK207.out 3).trans rfl; have hcz901_4 : w900.cell? ⟨gb207, 4, none⟩ = some (.int .u8 0) := (blk_cell BK207.out 4).trans rfl; have hcz901_5 : w900.cell? ⟨gb207, 5, none⟩ = some (.bool false) := (blk_cell BK207.out 5).trans rfl; have hfz901_0 := blk_frozen BK207.out 0; have hfz901_1 := blk_frozen BK207.out 1; have hfz901_2 := blk_frozen BK207.out 2; have hfz901_3 := blk_frozen BK207.out 3; have hfz901_4 := blk_frozen BK207.out 4; have hfz901_5 := blk_frozen BK207.out 5))
  refine bodyPost_ret (results_ct rfl _ _ gb207 32 #[.int .i64 a0, .bool false, .int .u8 0, .int .u8 0, .int .u8 0, .bool false] (0, 0) _ rfl (by (with_reducible repeat (first | refine blk_drewN ?_ _ | refine blk_drew ?_ | refine blk_alloc ?_ _)); refine blk_put (cs := #[.int .i64 a0, .bool false, .int .u8 0, .int .u8 0, .int .u8 0, .bool false]) ?_ 5 _ rfl; (with_reducible repeat (first | refine blk_drewN ?_ _ | refine blk_drew ?_ | refine blk_alloc ?_ _)); refine blk_put (cs := #[.int .i64 a0, .bool false, .int .u8 0, .int .u8 0, .int .u8 0, .bool false]) ?_ 4 _ rfl; (with_reducible repeat (first | refine blk_drewN ?_ _ | refine blk_drew ?_ | refine blk_alloc ?_ _)); refine blk_put (cs := #[.int .i64 a0, .bool false, .int .u8 0, .int .u8 0, .int .u8 0, .bool false]) ?_ 3 _ rfl; (with_reducible repeat (first | refine blk_drewN ?_ _ | refine blk_drew ?_ | refine blk_alloc ?_ _)); refine blk_put (cs := #[.int .i64 a0, .bool false, .int .u8 0, .int .u8 0, .int .u8 0, .bool false]) ?_ 2 _ rfl; (with_reducible repeat (first | refine blk_drewN ?_ _ | refine blk_drew ?_ | refine blk_alloc ?_ _)); refine blk_put (cs := #[.int .i64 a0, .bool false, .int .u8 0, .int .u8 0, .int .u8 0, .bool false]) ?_ 1 _ rfl; (with_reducible repeat (first | refine blk_drewN ?_ _ | refine blk_drew ?_ | refine blk_alloc ?_ _)); refine blk_put (cs := #[.int .i64 0, .bool false, .int .u8 0, .int .u8 0, .int .u8 0, .bool false]) ?_ 0 _ rfl; (with_reducible repeat (first | refine blk_drewN ?_ _ | refine blk_drew ?_ | refine blk_alloc ?_ _)); exact BK207.out) Try.underlying32 rfl (by kernel_rfl)) rfl ?_
  exact ⟨by first | rfl | (simp [errW_none, errW_some] <;> rfl) | (simp [*, errW_none, errW_some] <;> rfl), by repeat (first | (with_reducible first | exact HB.out | apply below_alloc | apply pw_below_drewN | apply below_drew1 | refine below_set ?_ GE207.out) | exact HB.out)⟩
end Go.Proofs.Ytmjjojbedllmgaa.G
end
section
namespace Go.Proofs.Ytmjjojbedllmgaa.Pure
open Go.RowKit Go.Proofs.Ytmjjojbedllmgaa.G Go.Proofs.Ytmjjojbedllmgaa.Hand
open Go.Proofs.YtmjjojbedllmgaaW.PrintWords Go.Proofs.YtmjjojbedllmgaaW.PrintLast Go.Proofs.YtmjjojbedllmgaaW.PrintMore
theorem rom_ref (k : Int) (o : Bool) (l h r : Int) (md : Bool) (a s : Int) (hl : 0 ≤ l ∧ l ≤ 255) (ha : 0 ≤ a ∧ a ≤ 65535) : whirligigref08_Rom.f k o l h r md a s = mapper_Rom.f k o l h r md a s := by
 unfold mapper_Rom.f whirligigref08_Rom.f mapper_Bank.f whirligigref08_Bank.f
 rw [bank_same k l h md a hl ha]
 simp only [Option.bind_some]
 by_cases c0 : s < 1
 ·rw [if_pos c0, if_pos c0]
 rw [if_neg c0, if_neg c0]
 by_cases c1 : a ≥ 32768
 ·rw [if_pos c1, if_pos (by omega)]
 rw [if_neg c1, if_neg (by omega), if_neg (by omega), if_neg (by omega), Int.mul_comm]
end Go.Proofs.Ytmjjojbedllmgaa.Pure
namespace Go.Proofs.Ytmjjojbedllmgaa.Hand
open Go.RowKit
open Go.Proofs.Ytmjjojbedllmgaa.G
open Go.Proofs.YtmjjojbedllmgaaW.PrintWords Go.Proofs.YtmjjojbedllmgaaW.PrintLast Go.Proofs.YtmjjojbedllmgaaW.PrintMore
open Go.Proofs.Ytmjjojbedllmgaa.Pure
theorem rmap_rom {s : Ct} (ok : s.Ok) (ad : Int) (ha : 0 ≤ ad ∧ ad ≤ 65535) (hlo : ad < 32768) : Puts 37 #[.agg #[.int .i64 s.mp.k, .bool s.mp.o, .int .u8 s.mp.l, .int .u8 s.mp.h, .int .u8 s.mp.r, .bool s.mp.md], .int .u16 ad, .int .i64 s.img.length] (.int .i64 (s.romN ad)) := by
 intro w
 obtain ⟨h1, _⟩ := rom_lo ok ad ha hlo
 exact whirligigref08_Rom.calls _ _ _ _ _ _ ad s.img.length (s.romN ad) w ((rom_ref _ _ _ _ _ _ ad _ ⟨ok.m.l0, ok.m.l1⟩ ha).trans h1)
theorem rmap_reg {s : Ct} (ad : Int) (ha : 0 ≤ ad ∧ ad ≤ 65535) (n : Int) (hn : mapper_Reg.f s.mp.k s.mp.o s.mp.l s.mp.h s.mp.r s.mp.md ad = some n) : Puts 71 #[.agg #[.int .i64 s.mp.k, .bool s.mp.o, .int .u8 s.mp.l, .int .u8 s.mp.h, .int .u8 s.mp.r, .bool s.mp.md], .int .u16 ad] (.int .i64 n) := by
 intro w
 exact whirligigref08_Reg.calls _ _ _ _ _ _ ad n w ((reg_same _ _ _ _ _ _ ad ha).symm.trans hn)
theorem rmap_ram (s : Ct) (ad : Int) (ha : 0 ≤ ad ∧ ad ≤ 65535) : Puts 40 #[.agg #[.int .i64 s.mp.k, .bool s.mp.o, .int .u8 s.mp.l, .int .u8 s.mp.h, .int .u8 s.mp.r, .bool s.mp.md], .int .u16 ad, .int .i64 s.ram.length] (.int .i64 (s.at ad)) := by
 intro w
 exact whirligigref08_Ram.calls 2 _ _ _ _ _ _ ad s.ram.length (s.at ad) w (ram_ref _ _ _ _ _ _ ad _ ha)
theorem rmap_new (k : Int) (h : k = 0 ∨ k = 1 ∨ k = 3 ∨ k = 5) : Puts 31 #[.int .i64 k] (.tuple #[.agg #[.int .i64 k, .bool false, .int .u8 0, .int .u8 0, .int .u8 0, .bool false], .int .i64 0]) := by
 intro w
 refine whirligigref08_New.calls k k false 0 0 0 false 0 w ?_
 unfold whirligigref08_New.f
 rcases h with rfl | rfl | rfl | rfl <;> rfl
end Go.Proofs.Ytmjjojbedllmgaa.Hand
end
section
namespace Go.Proofs.Ytmjjojbedllmgaa.Hand
open Go.RowKit
open Go.Proofs.Ytmjjojbedllmgaa.G
open Go.Proofs.YtmjjojbedllmgaaW.PrintWords Go.Proofs.YtmjjojbedllmgaaW.PrintLast Go.Proofs.YtmjjojbedllmgaaW.PrintMore
abbrev Hd.cells (h : Hd) : List Value := [.string h.t, .int .u8 h.kd, .int .i64 h.mp, .bool h.rm, .bool h.bt, .bool h.ck, .int .i64 h.bk, .int .i64 h.sz, .int .u8 h.sm, .int .u16 h.wh]
def HAt (w : World) (g : Nat) (h : Hd) : Prop := w.heap[g]? = some (.cells h.cells.toArray 30 (0, 0))
theorem HAt.new (w : World) (h : Hd) : HAt (w.alloc (.cells #[.string h.t, .int .u8 h.kd, .int .i64 h.mp, .bool h.rm, .bool h.bt, .bool h.ck, .int .i64 h.bk, .int .i64 h.sz, .int .u8 h.sm, .int .u16 h.wh] 30)) w.heap.size h := blk_new w _
theorem HAt.below {w w' : World} {g : Nat} {h : Hd} (a : HAt w g h) (hb : Below w.heap.size w w') : HAt w' g h := blk_below a hb
theorem HAt.alloc {w : World} {g : Nat} {h : Hd} (a : HAt w g h) (o : Obj) : HAt (w.alloc o) g h := blk_alloc a o
theorem HAt.drew {w : World} {g : Nat} {h : Hd} (a : HAt w g h) : HAt w.drew g h := blk_drew a
theorem HAt.frozen {w : World} {g : Nat} {h : Hd} (a : HAt w g h) (i : Nat) : w.frozen? ⟨g, i, none⟩ = false := blk_frozen a i
theorem HAt.range {w : World} {g : Nat} {h : Hd} (a : HAt w g h) : w.rangeAt g 0 h.cells := fun j x hx => by
 rw [blk_cell a (0 + j), Nat.zero_add]
 simpa using hx
theorem Hd.one (h : Hd) : h.cells.toArray.all (·.oneCell') = true := by simp [Value.oneCell']
theorem HAt.c3 {w : World} {g : Nat} {h : Hd} (a : HAt w g h) : w.cell? ⟨g, 3, none⟩ = some (.bool h.rm) := (blk_cell a 3).trans rfl
theorem HAt.c6 {w : World} {g : Nat} {h : Hd} (a : HAt w g h) : w.cell? ⟨g, 6, none⟩ = some (.int .i64 h.bk) := (blk_cell a 6).trans rfl
theorem HAt.c7 {w : World} {g : Nat} {h : Hd} (a : HAt w g h) : w.cell? ⟨g, 7, none⟩ = some (.int .i64 h.sz) := (blk_cell a 7).trans rfl
theorem HAt.c8 {w : World} {g : Nat} {h : Hd} (a : HAt w g h) : w.cell? ⟨g, 8, none⟩ = some (.int .u8 h.sm) := (blk_cell a 8).trans rfl
theorem HAt.c9 {w : World} {g : Nat} {h : Hd} (a : HAt w g h) : w.cell? ⟨g, 9, none⟩ = some (.int .u16 h.wh) := (blk_cell a 9).trans rfl
theorem HAt.putT {w : World} {g : Nat} {h : Hd} (a : HAt w g h) (v : ByteArray) : HAt (w.setCell ⟨g, 0, none⟩ (.string v)) g { h with t := v } := blk_put a 0 _ rfl
theorem HAt.putBk {w : World} {g : Nat} {h : Hd} (a : HAt w g h) (v : Int) : HAt (w.setCell ⟨g, 6, none⟩ (.int .i64 v)) g { h with bk := v } := blk_put a 6 _ rfl
theorem HAt.putSz {w : World} {g : Nat} {h : Hd} (a : HAt w g h) (v : Int) : HAt (w.setCell ⟨g, 7, none⟩ (.int .i64 v)) g { h with sz := v } := blk_put a 7 _ rfl
theorem HAt.putSm {w : World} {g : Nat} {h : Hd} (a : HAt w g h) (v : Int) : HAt (w.setCell ⟨g, 8, none⟩ (.int .u8 v)) g { h with sm := v } := blk_put a 8 _ rfl
theorem HAt.putWh {w : World} {g : Nat} {h : Hd} (a : HAt w g h) (v : Int) : HAt (w.setCell ⟨g, 9, none⟩ (.int .u16 v)) g { h with wh := v } := blk_put a 9 _ rfl
def RoomH (w : World) (g : Nat) : Prop := ∃ cs : Array Value, cs.size = 10 ∧ w.heap[g]? = some (.cells cs 30 (0, 0))
theorem RoomH.new (w : World) (cs : List Value) (h : cs.length = 10) : RoomH (w.alloc (.cells cs.toArray 30)) w.heap.size := ⟨_, by simpa using h, blk_new w _⟩
theorem RoomH.below {w w' : World} {g : Nat} (h : RoomH w g) (hb : Below w.heap.size w w') : RoomH w' g := by
 obtain ⟨cs, h1, h2⟩ := h
 exact ⟨cs, h1, blk_below h2 hb⟩
theorem RoomH.alloc {w : World} {g : Nat} (h : RoomH w g) (o : Obj) : RoomH (w.alloc o) g := by
 obtain ⟨cs, h1, h2⟩ := h
 exact ⟨cs, h1, blk_alloc h2 o⟩
theorem RoomH.drew {w : World} {g : Nat} (h : RoomH w g) : RoomH w.drew g := by
 obtain ⟨cs, h1, h2⟩ := h
 exact ⟨cs, h1, blk_drew h2⟩
theorem RoomH.far1 {w : World} {b g : Nat} (h : RoomH w b) (hg : b ≠ g) (i : Nat) (v : Value) : RoomH (w.setCell ⟨g, i, none⟩ v) b := by
 obtain ⟨cs, h1, h2⟩ := h
 exact ⟨cs, h1, blk_far h2 hg v⟩
theorem RoomH.there {w : World} {g : Nat} (h : RoomH w g) : w.there g 0 10 := by
 obtain ⟨cs, h1, h2⟩ := h
 exact blk_there h2 0 10 (by omega)
theorem RoomH.lt {w : World} {g : Nat} (h : RoomH w g) : g < w.heap.size := by
 obtain ⟨cs, h1, h2⟩ := h
 exact blk_lt h2
theorem RoomH.fillZ {w : World} {g : Nat} (h : RoomH w g) (vs : List Value) (hv : vs.length = 10) : (w.setCells g 0 vs).heap[g]? = some (.cells vs.toArray 30 (0, 0)) := by
 obtain ⟨cs, h1, h2⟩ := h
 exact blk_setAll h2 vs (by rw [h1]; exact hv)
end Go.Proofs.Ytmjjojbedllmgaa.Hand
end
section
namespace Go.Proofs.Ytmjjojbedllmgaa.Hand
open Go.RowKit
open Go.Proofs.Ytmjjojbedllmgaa.G
open Go.Proofs.YtmjjojbedllmgaaW.PrintWords Go.Proofs.YtmjjojbedllmgaaW.PrintLast Go.Proofs.YtmjjojbedllmgaaW.PrintMore
theorem rp_short (A : Option Addr) (c : Nat) (l : List Int) (hl : ¬ 336 ≤ l.length) : Puts 30 #[.slice A l.length c] (.tuple #[.agg #[.string ⟨#[]⟩, .int .u8 0, .int .i64 0, .bool false, .bool false, .bool false, .int .i64 0, .int .i64 0, .int .u8 0, .int .u16 0], .int .i64 2]) := by
 intro w
 have hlt : decide ((l.length : Int) < 336) = true := by simp; omega
 have BZ := Aside0.mk (RoomH.new w [.string ⟨#[]⟩, .int .u8 0, .int .i64 0, .bool false, .bool false, .bool false, .int .i64 0, .int .i64 0, .int .u8 0, .int .u16 0] rfl)
 have HB := Aside0.mk (below_alloc (Below.refl w.heap.size w) (.cells [.string ⟨#[]⟩, .int .u8 0, .int .i64 0, .bool false, .bool false, .bool false, .int .i64 0, .int .i64 0, .int .u8 0, .int .u16 0].toArray 30))
 go_enter Try.func30, Try.ntmps30
 go_wp2_with (first
  | ((with_reducible refine gate_store (t := 30) (p := 2) (v := .tmp 15) rfl ?_); have y0 := Aside0.mk (BZ.out.fillZ [.string ⟨#[]⟩, .int .u8 0, .int .i64 0, .bool false, .bool false, .bool false, .int .i64 0, .int .i64 0, .int .u8 0, .int .u16 0] rfl); have y1 := Aside0.mk (below_setAll HB.out w.heap.size 0 (Nat.le_refl _) [.string ⟨#[]⟩, .int .u8 0, .int .i64 0, .bool false, .bool false, .bool false, .int .i64 0, .int .i64 0, .int .u8 0, .int .u16 0]); refine wpList_store_mid rfl 30 (.tmp 2) (.tmp 15) rfl w.heap.size 0 (List.toArray [.string ⟨#[]⟩, .int .u8 0, .int .i64 0, .bool false, .bool false, .bool false, .int .i64 0, .int .i64 0, .int .u8 0, .int .u16 0]) rfl rfl BZ.out.there (by kernel_rfl) (by simp [Value.oneCell']) ?_; generalize World.setCells _ w.heap.size 0 _ = Y at y0 y1 ⊢; simp only [Act.put, List.setIfInBounds_toArray, List.set_cons_zero, List.set_cons_succ]))
 refine bodyPost_ret (results_ct rfl _ _ _ _ _ _ _ rfl y0.out rfl rfl (by kernel_rfl)) rfl ⟨rfl, y1.out⟩
theorem rp_kind (A : Option Addr) (c : Nat) (l : List Int) (hl : 336 ≤ l.length) (w : World) (hr : Kd.C (Kd.int .u8) w A l.length l) (hc : l.length ≤ c) (h0 : Hd) (hk : Puts 60 #[.int .u8 (rd l 327)] (.tuple #[.agg #[.string h0.t, .int .u8 h0.kd, .int .i64 h0.mp, .bool h0.rm, .bool h0.bt, .bool h0.ck, .int .i64 h0.bk, .int .i64 h0.sz, .int .u8 h0.sm, .int .u16 h0.wh], .bool false])) :
  Calls Try.prog 30 #[.slice A l.length c] w fun e' w' => e' = .returned (.tuple #[.agg #[.string ⟨#[]⟩, .int .u8 0, .int .i64 0, .bool false, .bool false, .bool false, .int .i64 0, .int .i64 0, .int .u8 0, .int .u16 0], .int .i64 4]) ∧ Below w.heap.size w w' := by
 obtain ⟨ad, rfl, _⟩ := Kd.at_int hr 327 (by omega) (by omega)
 have HR := Aside0.mk hr
 have BZ := Aside0.mk (RoomH.new w [.string ⟨#[]⟩, .int .u8 0, .int .i64 0, .bool false, .bool false, .bool false, .int .i64 0, .int .i64 0, .int .u8 0, .int .u16 0] rfl)
 have HB := Aside0.mk (below_alloc (Below.refl w.heap.size w) (.cells [.string ⟨#[]⟩, .int .u8 0, .int .i64 0, .bool false, .bool false, .bool false, .int .i64 0, .int .i64 0, .int .u8 0, .int .u16 0].toArray 30))
 obtain ⟨a_327, e_327, c327⟩ := Kd.at_int (Kd.C_below HR.out HB.out) 327 (by omega) (by omega)
 obtain rfl := Option.some.inj e_327
 clear e_327
 replace c327 : (w.alloc (.cells #[.string ⟨#[]⟩, .int .u8 0, .int .i64 0, .bool false, .bool false, .bool false, .int .i64 0, .int .i64 0, .int .u8 0, .int .u16 0] 30)).cell? ⟨ad.block, ad.off + 327, none⟩ = some (.int .u8 (rd l 327)) := c327
 have hlt : decide ((l.length : Int) < 336) = false := by simp; omega
 have h327 : (327 : Int) < l.length := by omega
 have h327c : (327 : Int) < c := by omega
 have h328 : (328 : Int) < l.length := by omega
 have h329 : (329 : Int) < l.length := by omega
 have h333 : (333 : Int) < l.length := by omega
 have h328c : (328 : Int) < c := by omega
 have h329c : (329 : Int) < c := by omega
 have h333c : (333 : Int) < c := by omega
 have HK := Aside0.mk hk
 clear hr hk
 go_enter Try.func30, Try.ntmps30
 go_wp2_with fail
 refine (HK.out.run _).mono ?_
 rintro e' w1 ⟨rfl, hb⟩
 clear c327 hlt HK
 have BZ_ := Aside0.mk (BZ.out.below hb)
 have HB_ := Aside0.mk (below_step HB.out hb)
 clear BZ HB hb
 have BZ := BZ_
 have HB := HB_
 clear BZ_ HB_
 have BH := Aside0.mk (HAt.new w1 h0)
 have z_ := Aside0.mk (BZ.out.alloc (.cells #[.string h0.t, .int .u8 h0.kd, .int .i64 h0.mp, .bool h0.rm, .bool h0.bt, .bool h0.ck, .int .i64 h0.bk, .int .i64 h0.sz, .int .u8 h0.sm, .int .u16 h0.wh] 30))
 have hb_ := Aside0.mk (below_alloc HB.out (.cells #[.string h0.t, .int .u8 h0.kd, .int .i64 h0.mp, .bool h0.rm, .bool h0.bt, .bool h0.ck, .int .i64 h0.bk, .int .i64 h0.sz, .int .u8 h0.sm, .int .u16 h0.wh] 30))
 have NE := Aside0.mk (show w.heap.size < w1.heap.size from BZ.out.lt)
 clear BZ HB
 have BZ := z_
 have HB := hb_
 clear z_ hb_
 obtain ⟨a_328, e_328, c328⟩ := Kd.at_int (Kd.C_below HR.out HB.out) 328 (by omega) (by omega)
 obtain rfl := Option.some.inj e_328
 clear e_328
 replace c328 : (w1.alloc (.cells #[.string h0.t, .int .u8 h0.kd, .int .i64 h0.mp, .bool h0.rm, .bool h0.bt, .bool h0.ck, .int .i64 h0.bk, .int .i64 h0.sz, .int .u8 h0.sm, .int .u16 h0.wh] 30)).cell? ⟨ad.block, ad.off + 328, none⟩ = some (.int .u8 (rd l 328)) := c328
 obtain ⟨a_329, e_329, c329⟩ := Kd.at_int (Kd.C_below HR.out HB.out) 329 (by omega) (by omega)
 obtain rfl := Option.some.inj e_329
 clear e_329
 replace c329 : (w1.alloc (.cells #[.string h0.t, .int .u8 h0.kd, .int .i64 h0.mp, .bool h0.rm, .bool h0.bt, .bool h0.ck, .int .i64 h0.bk, .int .i64 h0.sz, .int .u8 h0.sm, .int .u16 h0.wh] 30)).cell? ⟨ad.block, ad.off + 329, none⟩ = some (.int .u8 (rd l 329)) := c329
 go_wp2_with (first
  | ((with_reducible refine gate_store (t := 30) (p := 2) (v := .tmp 25) rfl ?_); have y0 := Aside0.mk (BZ.out.fillZ [.string ⟨#[]⟩, .int .u8 0, .int .i64 0, .bool false, .bool false, .bool false, .int .i64 0, .int .i64 0, .int .u8 0, .int .u16 0] rfl); have y1 := Aside0.mk (below_setAll HB.out w.heap.size 0 (Nat.le_refl _) [.string ⟨#[]⟩, .int .u8 0, .int .i64 0, .bool false, .bool false, .bool false, .int .i64 0, .int .i64 0, .int .u8 0, .int .u16 0]); refine wpList_store_mid rfl 30 (.tmp 2) (.tmp 25) rfl w.heap.size 0 (List.toArray [.string ⟨#[]⟩, .int .u8 0, .int .i64 0, .bool false, .bool false, .bool false, .int .i64 0, .int .i64 0, .int .u8 0, .int .u16 0]) rfl rfl BZ.out.there (by kernel_rfl) (by simp [Value.oneCell']) ?_; generalize World.setCells _ w.heap.size 0 _ = Y at y0 y1 ⊢; simp only [Act.put, List.setIfInBounds_toArray, List.set_cons_zero, List.set_cons_succ]))
 refine bodyPost_ret (results_ct rfl _ _ _ _ _ _ _ rfl y0.out rfl rfl (by kernel_rfl)) rfl ⟨rfl, y1.out⟩
theorem rp_size_a (A : Option Addr) (c : Nat) (l : List Int) (hl : 336 ≤ l.length) (w : World) (hr : Kd.C (Kd.int .u8) w A l.length l) (hc : l.length ≤ c) (h0 : Hd) (hk : Puts 60 #[.int .u8 (rd l 327)] (.tuple #[.agg #[.string h0.t, .int .u8 h0.kd, .int .i64 h0.mp, .bool h0.rm, .bool h0.bt, .bool h0.ck, .int .i64 h0.bk, .int .i64 h0.sz, .int .u8 h0.sm, .int .u16 h0.wh], .bool true])) (h8 : decide (8 < rd l 328) = true) :
  Calls Try.prog 30 #[.slice A l.length c] w fun e' w' => e' = .returned (.tuple #[.agg #[.string ⟨#[]⟩, .int .u8 0, .int .i64 0, .bool false, .bool false, .bool false, .int .i64 0, .int .i64 0, .int .u8 0, .int .u16 0], .int .i64 5]) ∧ Below w.heap.size w w' := by
 obtain ⟨ad, rfl, _⟩ := Kd.at_int hr 327 (by omega) (by omega)
 have HR := Aside0.mk hr
 have BZ := Aside0.mk (RoomH.new w [.string ⟨#[]⟩, .int .u8 0, .int .i64 0, .bool false, .bool false, .bool false, .int .i64 0, .int .i64 0, .int .u8 0, .int .u16 0] rfl)
 have HB := Aside0.mk (below_alloc (Below.refl w.heap.size w) (.cells [.string ⟨#[]⟩, .int .u8 0, .int .i64 0, .bool false, .bool false, .bool false, .int .i64 0, .int .i64 0, .int .u8 0, .int .u16 0].toArray 30))
 obtain ⟨a_327, e_327, c327⟩ := Kd.at_int (Kd.C_below HR.out HB.out) 327 (by omega) (by omega)
 obtain rfl := Option.some.inj e_327
 clear e_327
 replace c327 : (w.alloc (.cells #[.string ⟨#[]⟩, .int .u8 0, .int .i64 0, .bool false, .bool false, .bool false, .int .i64 0, .int .i64 0, .int .u8 0, .int .u16 0] 30)).cell? ⟨ad.block, ad.off + 327, none⟩ = some (.int .u8 (rd l 327)) := c327
 have hlt : decide ((l.length : Int) < 336) = false := by simp; omega
 have h327 : (327 : Int) < l.length := by omega
 have h327c : (327 : Int) < c := by omega
 have h328 : (328 : Int) < l.length := by omega
 have h329 : (329 : Int) < l.length := by omega
 have h333 : (333 : Int) < l.length := by omega
 have h328c : (328 : Int) < c := by omega
 have h329c : (329 : Int) < c := by omega
 have h333c : (333 : Int) < c := by omega
 have HK := Aside0.mk hk
 clear hr hk
 go_enter Try.func30, Try.ntmps30
 go_wp2_with fail
 refine (HK.out.run _).mono ?_
 rintro e' w1 ⟨rfl, hb⟩
 clear c327 hlt HK
 have BZ_ := Aside0.mk (BZ.out.below hb)
 have HB_ := Aside0.mk (below_step HB.out hb)
 clear BZ HB hb
 have BZ := BZ_
 have HB := HB_
 clear BZ_ HB_
 have BH := Aside0.mk (HAt.new w1 h0)
 have z_ := Aside0.mk (BZ.out.alloc (.cells #[.string h0.t, .int .u8 h0.kd, .int .i64 h0.mp, .bool h0.rm, .bool h0.bt, .bool h0.ck, .int .i64 h0.bk, .int .i64 h0.sz, .int .u8 h0.sm, .int .u16 h0.wh] 30))
 have hb_ := Aside0.mk (below_alloc HB.out (.cells #[.string h0.t, .int .u8 h0.kd, .int .i64 h0.mp, .bool h0.rm, .bool h0.bt, .bool h0.ck, .int .i64 h0.bk, .int .i64 h0.sz, .int .u8 h0.sm, .int .u16 h0.wh] 30))
 have NE := Aside0.mk (show w.heap.size < w1.heap.size from BZ.out.lt)
 clear BZ HB
 have BZ := z_
 have HB := hb_
 clear z_ hb_
 obtain ⟨a_328, e_328, c328⟩ := Kd.at_int (Kd.C_below HR.out HB.out) 328 (by omega) (by omega)
 obtain rfl := Option.some.inj e_328
 clear e_328
 replace c328 : (w1.alloc (.cells #[.string h0.t, .int .u8 h0.kd, .int .i64 h0.mp, .bool h0.rm, .bool h0.bt, .bool h0.ck, .int .i64 h0.bk, .int .i64 h0.sz, .int .u8 h0.sm, .int .u16 h0.wh] 30)).cell? ⟨ad.block, ad.off + 328, none⟩ = some (.int .u8 (rd l 328)) := c328
 obtain ⟨a_329, e_329, c329⟩ := Kd.at_int (Kd.C_below HR.out HB.out) 329 (by omega) (by omega)
 obtain rfl := Option.some.inj e_329
 clear e_329
 replace c329 : (w1.alloc (.cells #[.string h0.t, .int .u8 h0.kd, .int .i64 h0.mp, .bool h0.rm, .bool h0.bt, .bool h0.ck, .int .i64 h0.bk, .int .i64 h0.sz, .int .u8 h0.sm, .int .u16 h0.wh] 30)).cell? ⟨ad.block, ad.off + 329, none⟩ = some (.int .u8 (rd l 329)) := c329
 go_wp2_with (first
  | ((with_reducible refine gate_store (t := 30) (p := 2) (v := .tmp 45) rfl ?_); have y0 := Aside0.mk (BZ.out.fillZ [.string ⟨#[]⟩, .int .u8 0, .int .i64 0, .bool false, .bool false, .bool false, .int .i64 0, .int .i64 0, .int .u8 0, .int .u16 0] rfl); have y1 := Aside0.mk (below_setAll HB.out w.heap.size 0 (Nat.le_refl _) [.string ⟨#[]⟩, .int .u8 0, .int .i64 0, .bool false, .bool false, .bool false, .int .i64 0, .int .i64 0, .int .u8 0, .int .u16 0]); refine wpList_store_mid rfl 30 (.tmp 2) (.tmp 45) rfl w.heap.size 0 (List.toArray [.string ⟨#[]⟩, .int .u8 0, .int .i64 0, .bool false, .bool false, .bool false, .int .i64 0, .int .i64 0, .int .u8 0, .int .u16 0]) rfl rfl BZ.out.there (by kernel_rfl) (by simp [Value.oneCell']) ?_; generalize World.setCells _ w.heap.size 0 _ = Y at y0 y1 ⊢; simp only [Act.put, List.setIfInBounds_toArray, List.set_cons_zero, List.set_cons_succ]))
 refine bodyPost_ret (results_ct rfl _ _ _ _ _ _ _ rfl y0.out rfl rfl (by kernel_rfl)) rfl ⟨rfl, y1.out⟩
theorem rp_size_b (A : Option Addr) (c : Nat) (l : List Int) (hl : 336 ≤ l.length) (w : World) (hr : Kd.C (Kd.int .u8) w A l.length l) (hc : l.length ≤ c) (h0 : Hd) (hk : Puts 60 #[.int .u8 (rd l 327)] (.tuple #[.agg #[.string h0.t, .int .u8 h0.kd, .int .i64 h0.mp, .bool h0.rm, .bool h0.bt, .bool h0.ck, .int .i64 h0.bk, .int .i64 h0.sz, .int .u8 h0.sm, .int .u16 h0.wh], .bool true])) (h8 : decide (8 < rd l 328) = false) (h5 : decide (5 < rd l 329) = true) :
  Calls Try.prog 30 #[.slice A l.length c] w fun e' w' => e' = .returned (.tuple #[.agg #[.string ⟨#[]⟩, .int .u8 0, .int .i64 0, .bool false, .bool false, .bool false, .int .i64 0, .int .i64 0, .int .u8 0, .int .u16 0], .int .i64 5]) ∧ Below w.heap.size w w' := by
 obtain ⟨ad, rfl, _⟩ := Kd.at_int hr 327 (by omega) (by omega)
 have HR := Aside0.mk hr
 have BZ := Aside0.mk (RoomH.new w [.string ⟨#[]⟩, .int .u8 0, .int .i64 0, .bool false, .bool false, .bool false, .int .i64 0, .int .i64 0, .int .u8 0, .int .u16 0] rfl)
 have HB := Aside0.mk (below_alloc (Below.refl w.heap.size w) (.cells [.string ⟨#[]⟩, .int .u8 0, .int .i64 0, .bool false, .bool false, .bool false, .int .i64 0, .int .i64 0, .int .u8 0, .int .u16 0].toArray 30))
 obtain ⟨a_327, e_327, c327⟩ := Kd.at_int (Kd.C_below HR.out HB.out) 327 (by omega) (by omega)
 obtain rfl := Option.some.inj e_327
 clear e_327
 replace c327 : (w.alloc (.cells #[.string ⟨#[]⟩, .int .u8 0, .int .i64 0, .bool false, .bool false, .bool false, .int .i64 0, .int .i64 0, .int .u8 0, .int .u16 0] 30)).cell? ⟨ad.block, ad.off + 327, none⟩ = some (.int .u8 (rd l 327)) := c327
 have hlt : decide ((l.length : Int) < 336) = false := by simp; omega
 have h327 : (327 : Int) < l.length := by omega
 have h327c : (327 : Int) < c := by omega
 have h328 : (328 : Int) < l.length := by omega
 have h329 : (329 : Int) < l.length := by omega
 have h333 : (333 : Int) < l.length := by omega
 have h328c : (328 : Int) < c := by omega
 have h329c : (329 : Int) < c := by omega
 have h333c : (333 : Int) < c := by omega
 have HK := Aside0.mk hk
 clear hr hk
 go_enter Try.func30, Try.ntmps30
 go_wp2_with fail
 refine (HK.out.run _).mono ?_
 rintro e' w1 ⟨rfl, hb⟩
 clear c327 hlt HK
 have BZ_ := Aside0.mk (BZ.out.below hb)
 have HB_ := Aside0.mk (below_step HB.out hb)
 clear BZ HB hb
 have BZ := BZ_
 have HB := HB_
 clear BZ_ HB_
 have BH := Aside0.mk (HAt.new w1 h0)
 have z_ := Aside0.mk (BZ.out.alloc (.cells #[.string h0.t, .int .u8 h0.kd, .int .i64 h0.mp, .bool h0.rm, .bool h0.bt, .bool h0.ck, .int .i64 h0.bk, .int .i64 h0.sz, .int .u8 h0.sm, .int .u16 h0.wh] 30))
 have hb_ := Aside0.mk (below_alloc HB.out (.cells #[.string h0.t, .int .u8 h0.kd, .int .i64 h0.mp, .bool h0.rm, .bool h0.bt, .bool h0.ck, .int .i64 h0.bk, .int .i64 h0.sz, .int .u8 h0.sm, .int .u16 h0.wh] 30))
 have NE := Aside0.mk (show w.heap.size < w1.heap.size from BZ.out.lt)
 clear BZ HB
 have BZ := z_
 have HB := hb_
 clear z_ hb_
 obtain ⟨a_328, e_328, c328⟩ := Kd.at_int (Kd.C_below HR.out HB.out) 328 (by omega) (by omega)
 obtain rfl := Option.some.inj e_328
 clear e_328
 replace c328 : (w1.alloc (.cells #[.string h0.t, .int .u8 h0.kd, .int .i64 h0.mp, .bool h0.rm, .bool h0.bt, .bool h0.ck, .int .i64 h0.bk, .int .i64 h0.sz, .int .u8 h0.sm, .int .u16 h0.wh] 30)).cell? ⟨ad.block, ad.off + 328, none⟩ = some (.int .u8 (rd l 328)) := c328
 obtain ⟨a_329, e_329, c329⟩ := Kd.at_int (Kd.C_below HR.out HB.out) 329 (by omega) (by omega)
 obtain rfl := Option.some.inj e_329
 clear e_329
 replace c329 : (w1.alloc (.cells #[.string h0.t, .int .u8 h0.kd, .int .i64 h0.mp, .bool h0.rm, .bool h0.bt, .bool h0.ck, .int .i64 h0.bk, .int .i64 h0.sz, .int .u8 h0.sm, .int .u16 h0.wh] 30)).cell? ⟨ad.block, ad.off + 329, none⟩ = some (.int .u8 (rd l 329)) := c329
 go_wp2_with (first
  | ((with_reducible refine gate_store (t := 30) (p := 2) (v := .tmp 45) rfl ?_); have y0 := Aside0.mk (BZ.out.fillZ [.string ⟨#[]⟩, .int .u8 0, .int .i64 0, .bool false, .bool false, .bool false, .int .i64 0, .int .i64 0, .int .u8 0, .int .u16 0] rfl); have y1 := Aside0.mk (below_setAll HB.out w.heap.size 0 (Nat.le_refl _) [.string ⟨#[]⟩, .int .u8 0, .int .i64 0, .bool false, .bool false, .bool false, .int .i64 0, .int .i64 0, .int .u8 0, .int .u16 0]); refine wpList_store_mid rfl 30 (.tmp 2) (.tmp 45) rfl w.heap.size 0 (List.toArray [.string ⟨#[]⟩, .int .u8 0, .int .i64 0, .bool false, .bool false, .bool false, .int .i64 0, .int .i64 0, .int .u8 0, .int .u16 0]) rfl rfl BZ.out.there (by kernel_rfl) (by simp [Value.oneCell']) ?_; generalize World.setCells _ w.heap.size 0 _ = Y at y0 y1 ⊢; simp only [Act.put, List.setIfInBounds_toArray, List.set_cons_zero, List.set_cons_succ]))
 refine bodyPost_ret (results_ct rfl _ _ _ _ _ _ _ rfl y0.out rfl rfl (by kernel_rfl)) rfl ⟨rfl, y1.out⟩
theorem rp_size_c (A : Option Addr) (c : Nat) (l : List Int) (hl : 336 ≤ l.length) (w : World) (hr : Kd.C (Kd.int .u8) w A l.length l) (hc : l.length ≤ c) (h0 : Hd) (hk : Puts 60 #[.int .u8 (rd l 327)] (.tuple #[.agg #[.string h0.t, .int .u8 h0.kd, .int .i64 h0.mp, .bool h0.rm, .bool h0.bt, .bool h0.ck, .int .i64 h0.bk, .int .i64 h0.sz, .int .u8 h0.sm, .int .u16 h0.wh], .bool true])) (h8 : decide (8 < rd l 328) = false) (h5 : decide (5 < rd l 329) = false) (mo : Int) (hm : Puts 61 #[.int .u8 (rd l 328)] (.int .i64 mo)) (hsz : decide (mo < (l.length : Int)) = true) :
  Calls Try.prog 30 #[.slice A l.length c] w fun e' w' => e' = .returned (.tuple #[.agg #[.string ⟨#[]⟩, .int .u8 0, .int .i64 0, .bool false, .bool false, .bool false, .int .i64 0, .int .i64 0, .int .u8 0, .int .u16 0], .int .i64 5]) ∧ Below w.heap.size w w' := by
 have HM := Aside0.mk hm
 clear hm
 obtain ⟨ad, rfl, _⟩ := Kd.at_int hr 327 (by omega) (by omega)
 have HR := Aside0.mk hr
 have BZ := Aside0.mk (RoomH.new w [.string ⟨#[]⟩, .int .u8 0, .int .i64 0, .bool false, .bool false, .bool false, .int .i64 0, .int .i64 0, .int .u8 0, .int .u16 0] rfl)
 have HB := Aside0.mk (below_alloc (Below.refl w.heap.size w) (.cells [.string ⟨#[]⟩, .int .u8 0, .int .i64 0, .bool false, .bool false, .bool false, .int .i64 0, .int .i64 0, .int .u8 0, .int .u16 0].toArray 30))
 obtain ⟨a_327, e_327, c327⟩ := Kd.at_int (Kd.C_below HR.out HB.out) 327 (by omega) (by omega)
 obtain rfl := Option.some.inj e_327
 clear e_327
 replace c327 : (w.alloc (.cells #[.string ⟨#[]⟩, .int .u8 0, .int .i64 0, .bool false, .bool false, .bool false, .int .i64 0, .int .i64 0, .int .u8 0, .int .u16 0] 30)).cell? ⟨ad.block, ad.off + 327, none⟩ = some (.int .u8 (rd l 327)) := c327
 have hlt : decide ((l.length : Int) < 336) = false := by simp; omega
 have h327 : (327 : Int) < l.length := by omega
 have h327c : (327 : Int) < c := by omega
 have h328 : (328 : Int) < l.length := by omega
 have h329 : (329 : Int) < l.length := by omega
 have h333 : (333 : Int) < l.length := by omega
 have h328c : (328 : Int) < c := by omega
 have h329c : (329 : Int) < c := by omega
 have h333c : (333 : Int) < c := by omega
 have HK := Aside0.mk hk
 clear hr hk
 go_enter Try.func30, Try.ntmps30
 go_wp2_with fail
 refine (HK.out.run _).mono ?_
 rintro e' w1 ⟨rfl, hb⟩
 clear c327 hlt HK
 have BZ_ := Aside0.mk (BZ.out.below hb)
 have HB_ := Aside0.mk (below_step HB.out hb)
 clear BZ HB hb
 have BZ := BZ_
 have HB := HB_
 clear BZ_ HB_
 have BH := Aside0.mk (HAt.new w1 h0)
 have z_ := Aside0.mk (BZ.out.alloc (.cells #[.string h0.t, .int .u8 h0.kd, .int .i64 h0.mp, .bool h0.rm, .bool h0.bt, .bool h0.ck, .int .i64 h0.bk, .int .i64 h0.sz, .int .u8 h0.sm, .int .u16 h0.wh] 30))
 have hb_ := Aside0.mk (below_alloc HB.out (.cells #[.string h0.t, .int .u8 h0.kd, .int .i64 h0.mp, .bool h0.rm, .bool h0.bt, .bool h0.ck, .int .i64 h0.bk, .int .i64 h0.sz, .int .u8 h0.sm, .int .u16 h0.wh] 30))
 have NE := Aside0.mk (show w.heap.size < w1.heap.size from BZ.out.lt)
 clear BZ HB
 have BZ := z_
 have HB := hb_
 clear z_ hb_
 obtain ⟨a_328, e_328, c328⟩ := Kd.at_int (Kd.C_below HR.out HB.out) 328 (by omega) (by omega)
 obtain rfl := Option.some.inj e_328
 clear e_328
 replace c328 : (w1.alloc (.cells #[.string h0.t, .int .u8 h0.kd, .int .i64 h0.mp, .bool h0.rm, .bool h0.bt, .bool h0.ck, .int .i64 h0.bk, .int .i64 h0.sz, .int .u8 h0.sm, .int .u16 h0.wh] 30)).cell? ⟨ad.block, ad.off + 328, none⟩ = some (.int .u8 (rd l 328)) := c328
 obtain ⟨a_329, e_329, c329⟩ := Kd.at_int (Kd.C_below HR.out HB.out) 329 (by omega) (by omega)
 obtain rfl := Option.some.inj e_329
 clear e_329
 replace c329 : (w1.alloc (.cells #[.string h0.t, .int .u8 h0.kd, .int .i64 h0.mp, .bool h0.rm, .bool h0.bt, .bool h0.ck, .int .i64 h0.bk, .int .i64 h0.sz, .int .u8 h0.sm, .int .u16 h0.wh] 30)).cell? ⟨ad.block, ad.off + 329, none⟩ = some (.int .u8 (rd l 329)) := c329
 go_wp2_with fail
 generalize w1.alloc (.cells #[.string h0.t, .int .u8 h0.kd, .int .i64 h0.mp, .bool h0.rm, .bool h0.bt, .bool h0.ck, .int .i64 h0.bk, .int .i64 h0.sz, .int .u8 h0.sm, .int .u16 h0.wh] 30) = W2 at BH BZ HB c328 c329 ⊢
 refine (HM.out.run _).mono ?_
 rintro e' w2 ⟨rfl, hb⟩
 clear c328 c329
 have BZ_ := Aside0.mk (BZ.out.below hb)
 have BH_ := Aside0.mk (BH.out.below hb)
 have HB_ := Aside0.mk (below_step HB.out hb)
 clear BZ BH HB hb
 have BZ := BZ_
 have BH := BH_
 have HB := HB_
 clear BZ_ BH_ HB_
 go_wp2_with (first
  | ((with_reducible refine gate_store (t := 30) (p := 2) (v := .tmp 45) rfl ?_); have y0 := Aside0.mk (BZ.out.fillZ [.string ⟨#[]⟩, .int .u8 0, .int .i64 0, .bool false, .bool false, .bool false, .int .i64 0, .int .i64 0, .int .u8 0, .int .u16 0] rfl); have y1 := Aside0.mk (below_setAll HB.out w.heap.size 0 (Nat.le_refl _) [.string ⟨#[]⟩, .int .u8 0, .int .i64 0, .bool false, .bool false, .bool false, .int .i64 0, .int .i64 0, .int .u8 0, .int .u16 0]); refine wpList_store_mid rfl 30 (.tmp 2) (.tmp 45) rfl w.heap.size 0 (List.toArray [.string ⟨#[]⟩, .int .u8 0, .int .i64 0, .bool false, .bool false, .bool false, .int .i64 0, .int .i64 0, .int .u8 0, .int .u16 0]) rfl rfl BZ.out.there (by kernel_rfl) (by simp [Value.oneCell']) ?_; generalize World.setCells _ w.heap.size 0 _ = Y at y0 y1 ⊢; simp only [Act.put, List.setIfInBounds_toArray, List.set_cons_zero, List.set_cons_succ]))
 refine bodyPost_ret (results_ct rfl _ _ _ _ _ _ _ rfl y0.out rfl rfl (by kernel_rfl)) rfl ⟨rfl, y1.out⟩
theorem rp_sum (A : Option Addr) (c : Nat) (l : List Int) (hl : 336 ≤ l.length) (w : World) (hr : Kd.C (Kd.int .u8) w A l.length l) (hc : l.length ≤ c) (h0 : Hd) (hk : Puts 60 #[.int .u8 (rd l 327)] (.tuple #[.agg #[.string h0.t, .int .u8 h0.kd, .int .i64 h0.mp, .bool h0.rm, .bool h0.bt, .bool h0.ck, .int .i64 h0.bk, .int .i64 h0.sz, .int .u8 h0.sm, .int .u16 h0.wh], .bool true])) (h8 : decide (8 < rd l 328) = false) (h5 : decide (5 < rd l 329) = false) (mo : Int) (hm : Puts 61 #[.int .u8 (rd l 328)] (.int .i64 mo)) (hsz : decide (mo < (l.length : Int)) = false) (x z : Int) (hsum : ∀ w1 : World, Below w.heap.size w w1 → Calls Try.prog 62 #[.slice A l.length c] w1 fun e' w' => e' = .returned (.tuple #[.int .u8 x, .int .i64 z]) ∧ Below w1.heap.size w1 w') (hx : (x == rd l 333) = false) :
  Calls Try.prog 30 #[.slice A l.length c] w fun e' w' => e' = .returned (.tuple #[.agg #[.string ⟨#[]⟩, .int .u8 0, .int .i64 0, .bool false, .bool false, .bool false, .int .i64 0, .int .i64 0, .int .u8 0, .int .u16 0], .int .i64 3]) ∧ Below w.heap.size w w' := by
 have HM := Aside0.mk hm
 clear hm
 have HS := Aside0.mk hsum
 clear hsum
 obtain ⟨ad, rfl, _⟩ := Kd.at_int hr 327 (by omega) (by omega)
 have HR := Aside0.mk hr
 have BZ := Aside0.mk (RoomH.new w [.string ⟨#[]⟩, .int .u8 0, .int .i64 0, .bool false, .bool false, .bool false, .int .i64 0, .int .i64 0, .int .u8 0, .int .u16 0] rfl)
 have HB := Aside0.mk (below_alloc (Below.refl w.heap.size w) (.cells [.string ⟨#[]⟩, .int .u8 0, .int .i64 0, .bool false, .bool false, .bool false, .int .i64 0, .int .i64 0, .int .u8 0, .int .u16 0].toArray 30))
 obtain ⟨a_327, e_327, c327⟩ := Kd.at_int (Kd.C_below HR.out HB.out) 327 (by omega) (by omega)
 obtain rfl := Option.some.inj e_327
 clear e_327
 replace c327 : (w.alloc (.cells #[.string ⟨#[]⟩, .int .u8 0, .int .i64 0, .bool false, .bool false, .bool false, .int .i64 0, .int .i64 0, .int .u8 0, .int .u16 0] 30)).cell? ⟨ad.block, ad.off + 327, none⟩ = some (.int .u8 (rd l 327)) := c327
 have hlt : decide ((l.length : Int) < 336) = false := by simp; omega
 have h327 : (327 : Int) < l.length := by omega
 have h327c : (327 : Int) < c := by omega
 have h328 : (328 : Int) < l.length := by omega
 have h329 : (329 : Int) < l.length := by omega
 have h333 : (333 : Int) < l.length := by omega
 have h328c : (328 : Int) < c := by omega
 have h329c : (329 : Int) < c := by omega
 have h333c : (333 : Int) < c := by omega
 have HK := Aside0.mk hk
 clear hr hk
 go_enter Try.func30, Try.ntmps30
 go_wp2_with fail
 refine (HK.out.run _).mono ?_
 rintro e' w1 ⟨rfl, hb⟩
 clear c327 hlt HK
 have BZ_ := Aside0.mk (BZ.out.below hb)
 have HB_ := Aside0.mk (below_step HB.out hb)
 clear BZ HB hb
 have BZ := BZ_
 have HB := HB_
 clear BZ_ HB_
 have BH := Aside0.mk (HAt.new w1 h0)
 have z_ := Aside0.mk (BZ.out.alloc (.cells #[.string h0.t, .int .u8 h0.kd, .int .i64 h0.mp, .bool h0.rm, .bool h0.bt, .bool h0.ck, .int .i64 h0.bk, .int .i64 h0.sz, .int .u8 h0.sm, .int .u16 h0.wh] 30))
 have hb_ := Aside0.mk (below_alloc HB.out (.cells #[.string h0.t, .int .u8 h0.kd, .int .i64 h0.mp, .bool h0.rm, .bool h0.bt, .bool h0.ck, .int .i64 h0.bk, .int .i64 h0.sz, .int .u8 h0.sm, .int .u16 h0.wh] 30))
 have NE := Aside0.mk (show w.heap.size < w1.heap.size from BZ.out.lt)
 clear BZ HB
 have BZ := z_
 have HB := hb_
 clear z_ hb_
 obtain ⟨a_328, e_328, c328⟩ := Kd.at_int (Kd.C_below HR.out HB.out) 328 (by omega) (by omega)
 obtain rfl := Option.some.inj e_328
 clear e_328
 replace c328 : (w1.alloc (.cells #[.string h0.t, .int .u8 h0.kd, .int .i64 h0.mp, .bool h0.rm, .bool h0.bt, .bool h0.ck, .int .i64 h0.bk, .int .i64 h0.sz, .int .u8 h0.sm, .int .u16 h0.wh] 30)).cell? ⟨ad.block, ad.off + 328, none⟩ = some (.int .u8 (rd l 328)) := c328
 obtain ⟨a_329, e_329, c329⟩ := Kd.at_int (Kd.C_below HR.out HB.out) 329 (by omega) (by omega)
 obtain rfl := Option.some.inj e_329
 clear e_329
 replace c329 : (w1.alloc (.cells #[.string h0.t, .int .u8 h0.kd, .int .i64 h0.mp, .bool h0.rm, .bool h0.bt, .bool h0.ck, .int .i64 h0.bk, .int .i64 h0.sz, .int .u8 h0.sm, .int .u16 h0.wh] 30)).cell? ⟨ad.block, ad.off + 329, none⟩ = some (.int .u8 (rd l 329)) := c329
 go_wp2_with fail
 generalize w1.alloc (.cells #[.string h0.t, .int .u8 h0.kd, .int .i64 h0.mp, .bool h0.rm, .bool h0.bt, .bool h0.ck, .int .i64 h0.bk, .int .i64 h0.sz, .int .u8 h0.sm, .int .u16 h0.wh] 30) = W2 at BH BZ HB c328 c329 ⊢
 refine (HM.out.run _).mono ?_
 rintro e' w2 ⟨rfl, hb⟩
 clear c328 c329
 have BZ_ := Aside0.mk (BZ.out.below hb)
 have BH_ := Aside0.mk (BH.out.below hb)
 have HB_ := Aside0.mk (below_step HB.out hb)
 clear BZ BH HB hb
 have BZ := BZ_
 have BH := BH_
 have HB := HB_
 clear BZ_ BH_ HB_
 go_wp2_with fail
 refine (HS.out _ HB.out).mono ?_
 rintro e' w3 ⟨rfl, hb⟩
 clear hsz
 have BZ_ := Aside0.mk (BZ.out.below hb)
 have BH_ := Aside0.mk (BH.out.below hb)
 have HB_ := Aside0.mk (below_step HB.out hb)
 clear BZ BH HB hb
 have BZ := BZ_
 have BH := BH_
 have HB := HB_
 clear BZ_ BH_ HB_
 obtain ⟨a_333, e_333, c333⟩ := Kd.at_int (Kd.C_below HR.out HB.out) 333 (by omega) (by omega)
 obtain rfl := Option.some.inj e_333
 clear e_333
 replace c333 : w3.cell? ⟨ad.block, ad.off + 333, none⟩ = some (.int .u8 (rd l 333)) := c333
 go_wp2_with (first
  | ((with_reducible refine gate_store (t := 30) (p := 2) (v := .tmp 56) rfl ?_); have y0 := Aside0.mk (BZ.out.fillZ [.string ⟨#[]⟩, .int .u8 0, .int .i64 0, .bool false, .bool false, .bool false, .int .i64 0, .int .i64 0, .int .u8 0, .int .u16 0] rfl); have y1 := Aside0.mk (below_setAll HB.out w.heap.size 0 (Nat.le_refl _) [.string ⟨#[]⟩, .int .u8 0, .int .i64 0, .bool false, .bool false, .bool false, .int .i64 0, .int .i64 0, .int .u8 0, .int .u16 0]); refine wpList_store_mid rfl 30 (.tmp 2) (.tmp 56) rfl w.heap.size 0 (List.toArray [.string ⟨#[]⟩, .int .u8 0, .int .i64 0, .bool false, .bool false, .bool false, .int .i64 0, .int .i64 0, .int .u8 0, .int .u16 0]) rfl rfl BZ.out.there (by kernel_rfl) (by simp [Value.oneCell']) ?_; generalize World.setCells _ w.heap.size 0 _ = Y at y0 y1 ⊢; simp only [Act.put, List.setIfInBounds_toArray, List.set_cons_zero, List.set_cons_succ]))
 refine bodyPost_ret (results_ct rfl _ _ _ _ _ _ _ rfl y0.out rfl rfl (by kernel_rfl)) rfl ⟨rfl, y1.out⟩
end Go.Proofs.Ytmjjojbedllmgaa.Hand
end
section
namespace Go.Proofs.Ytmjjojbedllmgaa.Pure
open Go.RowKit Go.Proofs.Ytmjjojbedllmgaa.G Go.Proofs.Ytmjjojbedllmgaa.Hand
open Go.Proofs.YtmjjojbedllmgaaW.PrintWords Go.Proofs.YtmjjojbedllmgaaW.PrintLast Go.Proofs.YtmjjojbedllmgaaW.PrintMore
theorem str_append (a b : List Int) : strOfNums (a ++ b) = strOfNums a ++ strOfNums b := by
 apply ByteArray.ext
 simp [strOfNums, ByteArray.data_append]
theorem str_size (a : List Int) : (strOfNums a).size = a.length := by
 simp [strOfNums, ByteArray.size]
def titleS (l : List Int) (j : Nat) : ByteArray := strOfNums ((l.take (308 + j)).drop 308)
theorem title_size (l : List Int) (j : Nat) (h : 308 + j ≤ l.length) : (titleS l j).size = j := by
 unfold titleS; rw [str_size]; simp; omega
theorem title_step (l : List Int) (j : Nat) (h : 308 + j < l.length) : titleS l j ++ strOfNums [rd l (308 + (j : Int))] = titleS l (j + 1) := by
 unfold titleS
 rw [← str_append]
 congr 1
 have e : rd l (308 + (j : Int)) = l[308 + j] := by
  unfold rd
  rw [show (308 + (j : Int)).toNat = 308 + j by omega]
  simp [List.getD_eq_getElem?_getD, h]
 rw [e, show 308 + (j + 1) = (308 + j) + 1 by omega, List.take_succ_eq_append_getElem h, List.drop_append_of_le_length (by simp; omega)]
theorem title_zero (l : List Int) : titleS l 0 = (⟨#[]⟩ : ByteArray) := by
 unfold titleS
 rw [List.drop_take]
 rfl
theorem whole_or (x y : Int) (hx : 0 ≤ x ∧ x ≤ 255) (hy : 0 ≤ y ∧ y ≤ 255) : IntKind.u16.wrap (wrap64 ((wrap64 (256 * (wrap64 x))) + (wrap64 y))) = Go.bits .or .u16 (IntKind.u16.wrap (IntKind.u16.wrap x * 256)) (IntKind.u16.wrap y) := by
 have a1 : IntKind.u16.wrap x = x := by rw [IntKind.wrap_u16]; omega
 have a2 : IntKind.u16.wrap y = y := by rw [IntKind.wrap_u16]; omega
 have a3 : IntKind.u16.wrap (x * 256) = x * 256 := by rw [IntKind.wrap_u16]; omega
 rw [wrap64_in (x := x) (by omega), wrap64_in (x := y) (by omega), wrap64_in (x := 256 * x) (by omega), wrap64_in (x := 256 * x + y) (by omega), a1, a2, a3, u16_or256 x y (by omega) (by omega) (by omega) (by omega), IntKind.wrap_u16]
 omega
end Go.Proofs.Ytmjjojbedllmgaa.Pure
end
