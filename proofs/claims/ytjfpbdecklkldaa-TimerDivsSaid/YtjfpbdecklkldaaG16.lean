/- Written by a program of this session, after the kit's print: Go functions as Lean functions, each with the proof that the Go text comes to it. -/
import Derived.Test.YtjfpbdecklkldaaG0
import Derived.Test.YtjfpbdecklkldaaG4
import Derived.Test.YtjfpbdecklkldaaG6
namespace Go.Proofs.Ytjfpbdecklkldaa.G
open Go.RowKit Go.Proofs.YtjfpbdecklkldaaW.PrintWords Go.Proofs.YtjfpbdecklkldaaW.PrintLast Go.Proofs.YtjfpbdecklkldaaW.PrintMore
attribute [local go_sem] max2_int min2_int max_two min_two max_three min_three max_four min_four   -- for this text's walks alone
set_option linter.unusedVariables false
set_option linter.unusedSimpArgs false

/-! ### whirligiglaw11_TimerDivs: function 6 -/
def whirligiglaw11_TimerDivs.l0 : Nat → Int → Bool → Int → Int → Int → Int → Int → Int → Int → Int → Int → Int → Int → Option (Bool)
  | 0, _, _, _, _, _, _, _, _, _, _, _, _, _ => none
  | k + 1, x1, x5, x7, x212000, x212001, x212002, x212003, x212004, x214000, x214001, x214002, x214003, x214004 => if x7 < (Int.tmod x1 2000) then ((timer_Step.f k x214000 x214001 x214002 x214003 x214004).bind fun bt214 => (whirligiglaw11_TimerDivs.l0 k x1 x5 (IntKind.u16.wrap (x7 + 1)) x212000 x212001 x212002 x212003 x212004 bt214.1 bt214.2.1 bt214.2.2.1 bt214.2.2.2.1 bt214.2.2.2.2.1)) else (if x5 = true then (if x214000 = (IntKind.u16.wrap (x212000 + (IntKind.u16.wrap (4 * (Int.tmod x1 2000))))) then (if x214002 = x212002 then (some (x214003 == x212003)) else (some false)) else (some false)) else (some false))
def whirligiglaw11_TimerDivs.f (k : Nat) (a0_0 : Int) (a0_1 : Int) (a0_2 : Int) (a0_3 : Int) (a0_4 : Int) (a1 : Int) : Option (Bool) := (whirligiglaw11_shown.f k).bind fun t212 => (whirligiglaw11_TimerDivs.l0 k a1 t212 0 a0_0 a0_1 a0_2 a0_3 a0_4 a0_0 a0_1 a0_2 a0_3 a0_4)
theorem whirligiglaw11_TimerDivs.mono_l : ∀ k, (∀ y0 y1 y2 y3 y4 y5 y6 y7 y8 y9 y10 y11 y12, LeO (whirligiglaw11_TimerDivs.l0 k y0 y1 y2 y3 y4 y5 y6 y7 y8 y9 y10 y11 y12) (whirligiglaw11_TimerDivs.l0 (k + 1) y0 y1 y2 y3 y4 y5 y6 y7 y8 y9 y10 y11 y12))
  | 0 => fun _ _ _ _ _ _ _ _ _ _ _ _ _ r h => by simp [whirligiglaw11_TimerDivs.l0] at h
  | k + 1 => by
    have ih0 := whirligiglaw11_TimerDivs.mono_l k
    · intro y0 y1 y2 y3 y4 y5 y6 y7 y8 y9 y10 y11 y12
      unfold whirligiglaw11_TimerDivs.l0
      repeat' first
      | (with_reducible exact ih0 _ _ _ _ _ _ _ _ _ _ _ _ _)
      | (with_reducible exact timer_Step.mono _ _ _ _ _ _)
      | (with_reducible exact whirligiglaw11_shown.mono _)
      | (with_reducible exact LeO.refl _)
      | (with_reducible exact LeO.none _)
      | (with_reducible refine LeO.ite ?_ ?_)
      | (with_reducible refine LeO.bind ?_ (fun _ => ?_))
      | exact ih0 _ _ _ _ _ _ _ _ _ _ _ _ _
      | exact timer_Step.mono _ _ _ _ _ _
      | exact whirligiglaw11_shown.mono _
      | exact LeO.none _
      | refine LeO.ite ?_ ?_
      | refine LeO.bind ?_ (fun _ => ?_)
theorem whirligiglaw11_TimerDivs.mono : ∀ a0 a1 a2 a3 a4 a5 k, LeO (whirligiglaw11_TimerDivs.f k a0 a1 a2 a3 a4 a5) (whirligiglaw11_TimerDivs.f (k + 1) a0 a1 a2 a3 a4 a5) := by
  intro a0 a1 a2 a3 a4 a5 k
  have ih0 := whirligiglaw11_TimerDivs.mono_l k
  unfold whirligiglaw11_TimerDivs.f
  repeat' first
      | (with_reducible exact ih0 _ _ _ _ _ _ _ _ _ _ _ _ _)
      | (with_reducible exact timer_Step.mono _ _ _ _ _ _)
      | (with_reducible exact whirligiglaw11_shown.mono _)
      | (with_reducible exact LeO.refl _)
      | (with_reducible exact LeO.none _)
      | (with_reducible refine LeO.ite ?_ ?_)
      | (with_reducible refine LeO.bind ?_ (fun _ => ?_))
      | exact ih0 _ _ _ _ _ _ _ _ _ _ _ _ _
      | exact timer_Step.mono _ _ _ _ _ _
      | exact whirligiglaw11_shown.mono _
      | exact LeO.none _
      | refine LeO.ite ?_ ?_
      | refine LeO.bind ?_ (fun _ => ?_)
set_option maxHeartbeats 8000000 in
set_option maxRecDepth 100000 in
theorem whirligiglaw11_TimerDivs.calls (k : Nat) (a0_0 : Int) (a0_1 : Int) (a0_2 : Int) (a0_3 : Int) (a0_4 : Int) (a1 : Int) (r : Bool) (w : World) (h : whirligiglaw11_TimerDivs.f k a0_0 a0_1 a0_2 a0_3 a0_4 a1 = some r) :
    Calls Try.prog 6 #[.agg #[.int .u16 a0_0, .int .u8 a0_1, .int .u8 a0_2, .int .u8 a0_3, .int .u8 a0_4], .int .u16 a1] w fun e w' => e = .returned (.bool r) ∧ Below w.heap.size w w' := by
  have hu24 := Try.underlying24
  have HB := Aside0.mk (Below.refl w.heap.size w)
  have H : ((whirligiglaw11_shown.f k).bind fun t212 => (whirligiglaw11_TimerDivs.l0 k a1 t212 0 a0_0 a0_1 a0_2 a0_3 a0_4 a0_0 a0_1 a0_2 a0_3 a0_4)) = some r := h
  clear h
  replace H := Option.bind_eq_some_iff.mp H
  obtain ⟨t212, A30, H⟩ := H
  replace H : (whirligiglaw11_TimerDivs.l0 k a1 t212 0 a0_0 a0_1 a0_2 a0_3 a0_4 a0_0 a0_1 a0_2 a0_3 a0_4) = some r := H
  have A3 := Aside0.mk A30
  clear A30
  have H' := Aside0.mk H
  clear H
  go_enter Try.func6, Try.ntmps6
  go_wp2_with (first | ((with_reducible refine gate_dst (N := 2) rfl ?_); refine box_event ?hg (N := 2) ?hd (cs := #[.int .u16 a0_0, .int .u8 a0_1, .int .u8 a0_2, .int .u8 a0_3, .int .u8 a0_4]) (t := 24) ?hr ?_; (case hd => rfl); (case hg => rfl); (case hr => first | (go_simp; done) | (go_simp; rfl)); intro gb211 hg w4 hbox hb; have n0_ := Aside0.mk (below_step (by repeat (first | (with_reducible first | exact HB.out | apply below_alloc | apply pw_below_drewN | apply below_drew1) | exact HB.out)) hb); have n1_ := Aside0.mk (hbox); have n2_ := Aside0.mk ((by rw [hg]; exact (below_size (by repeat (first | (with_reducible first | exact HB.out | apply below_alloc | apply pw_below_drewN | apply below_drew1) | exact HB.out))) : w.heap.size ≤ gb211)); have n3_ := Aside0.mk ((by rw [hg]; exact (below_size (by repeat (first | (with_reducible first | exact HB.out | apply below_alloc | apply pw_below_drewN | apply below_drew1) | exact HB.out))) : w.heap.size ≤ gb211)); clear HB; have HB := n0_; have BK211 := n1_; have GW211 := n2_; have GE211 := n3_; clear n0_ n1_ n2_ n3_; clear hb hbox hg) | ((with_reducible refine gate_callee (f := 10) rfl ?_); refine goesL_ (some 8) rfl rfl Try.func10 (by kernel_rfl) rfl #[] rfl (by (try simp only [List.map_toArray, List.map_cons, List.map_nil]); first | done | rfl | (simp only [List.length_drop, List.length_take]; rfl)) ?_; (with_reducible refine (whirligiglaw11_shown.calls k  t212 _ A3.out).mono ?_); rintro e w5 ⟨rfl, hb⟩; refine ⟨_, rfl, ?_⟩; have n0_ := Aside0.mk (blk_below (g := gb211) (o := .cells #[.int .u16 a0_0, .int .u8 a0_1, .int .u8 a0_2, .int .u8 a0_3, .int .u8 a0_4] 24 (0, 0)) (by (with_reducible repeat (first | refine blk_drewN ?_ _ | refine blk_drew ?_ | refine blk_alloc ?_ _)); exact BK211.out) hb); have n1_ := Aside0.mk (below_step (by repeat (first | (with_reducible first | exact HB.out | apply below_alloc | apply pw_below_drewN | apply below_drew1 | refine below_set ?_ GE211.out) | exact HB.out)) hb); clear BK211; clear HB; have BK211 := n0_; have HB := n1_; clear n0_ n1_; (try clear hb); (try clear hb2); (try clear hk); (try clear hi); have hcz6_0 : w5.cell? ⟨gb211, 0, none⟩ = some (.int .u16 a0_0) := (blk_cell BK211.out 0).trans rfl; have hcz6_1 : w5.cell? ⟨gb211, 1, none⟩ = some (.int .u8 a0_1) := (blk_cell BK211.out 1).trans rfl; have hcz6_2 : w5.cell? ⟨gb211, 2, none⟩ = some (.int .u8 a0_2) := (blk_cell BK211.out 2).trans rfl; have hcz6_3 : w5.cell? ⟨gb211, 3, none⟩ = some (.int .u8 a0_3) := (blk_cell BK211.out 3).trans rfl; have hcz6_4 : w5.cell? ⟨gb211, 4, none⟩ = some (.int .u8 a0_4) := (blk_cell BK211.out 4).trans rfl; have hfz6_0 := blk_frozen BK211.out 0; have hfz6_1 := blk_frozen BK211.out 1; have hfz6_2 := blk_frozen BK211.out 2; have hfz6_3 := blk_frozen BK211.out 3; have hfz6_4 := blk_frozen BK211.out 4) | ((with_reducible refine gate_dst (N := 6) rfl ?_); refine box_event ?hg (N := 6) ?hd (cs := #[.int .u16 0, .int .u8 0, .int .u8 0, .int .u8 0, .int .u8 0]) (t := 24) ?hr ?_; (case hd => rfl); (case hg => rfl); (case hr => first | (go_simp; done) | (go_simp; rfl)); intro gb213 hg w7 hbox hb; have n0_ := Aside0.mk (blk_below (g := gb211) (o := .cells #[.int .u16 a0_0, .int .u8 a0_1, .int .u8 a0_2, .int .u8 a0_3, .int .u8 a0_4] 24 (0, 0)) (by (with_reducible repeat (first | refine blk_drewN ?_ _ | refine blk_drew ?_ | refine blk_alloc ?_ _)); exact BK211.out) hb); have n1_ := Aside0.mk (below_step (by repeat (first | (with_reducible first | exact HB.out | apply below_alloc | apply pw_below_drewN | apply below_drew1 | refine below_set ?_ GE211.out) | exact HB.out)) hb); have n2_ := Aside0.mk (hbox); have n3_ := Aside0.mk ((by rw [hg]; exact (below_size (by repeat (first | (with_reducible first | exact HB.out | apply below_alloc | apply pw_below_drewN | apply below_drew1 | refine below_set ?_ GE211.out) | exact HB.out))) : w.heap.size ≤ gb213)); have n4_ := Aside0.mk ((by rw [hg]; exact (below_size (by repeat (first | (with_reducible first | exact HB.out | apply below_alloc | apply pw_below_drewN | apply below_drew1 | refine below_set ?_ GE211.out) | exact HB.out))) : w.heap.size ≤ gb213)); have n5_ := Aside0.mk ((by rw [hg]; exact Nat.ne_of_lt (blk_lt (g := gb211) (o := .cells #[.int .u16 a0_0, .int .u8 a0_1, .int .u8 a0_2, .int .u8 a0_3, .int .u8 a0_4] 24 (0, 0)) (by (with_reducible repeat (first | refine blk_drewN ?_ _ | refine blk_drew ?_ | refine blk_alloc ?_ _)); exact BK211.out)) : gb211 ≠ gb213)); have n6_ := Aside0.mk ((by rw [hg]; exact Nat.ne_of_gt (blk_lt (g := gb211) (o := .cells #[.int .u16 a0_0, .int .u8 a0_1, .int .u8 a0_2, .int .u8 a0_3, .int .u8 a0_4] 24 (0, 0)) (by (with_reducible repeat (first | refine blk_drewN ?_ _ | refine blk_drew ?_ | refine blk_alloc ?_ _)); exact BK211.out)) : gb213 ≠ gb211)); clear BK211; clear HB; have BK211 := n0_; have HB := n1_; have BK213 := n2_; have GW213 := n3_; have GE213 := n4_; have NB211_213 := n5_; have NB213_211 := n6_; clear n0_ n1_ n2_ n3_ n4_ n5_ n6_; clear hb hbox hg; have hnb8 := NB213_211.out; have hnc8 := NB211_213.out; have hcz9_0 : w7.cell? ⟨gb213, 0, none⟩ = some (.int .u16 0) := (blk_cell BK213.out 0).trans rfl; have hcz9_1 : w7.cell? ⟨gb213, 1, none⟩ = some (.int .u8 0) := (blk_cell BK213.out 1).trans rfl; have hcz9_2 : w7.cell? ⟨gb213, 2, none⟩ = some (.int .u8 0) := (blk_cell BK213.out 2).trans rfl; have hcz9_3 : w7.cell? ⟨gb213, 3, none⟩ = some (.int .u8 0) := (blk_cell BK213.out 3).trans rfl; have hcz9_4 : w7.cell? ⟨gb213, 4, none⟩ = some (.int .u8 0) := (blk_cell BK213.out 4).trans rfl; have hfz9_0 := blk_frozen BK213.out 0; have hfz9_1 := blk_frozen BK213.out 1; have hfz9_2 := blk_frozen BK213.out 2; have hfz9_3 := blk_frozen BK213.out 3; have hfz9_4 := blk_frozen BK213.out 4))
  go_loopg [7] k (fun kq v7 w' => ∃ (x7_1 : Int) (x214000_1 : Int) (x214001_1 : Int) (x214002_1 : Int) (x214003_1 : Int) (x214004_1 : Int), v7 = .int .u16 x7_1 ∧ Aside0 (whirligiglaw11_TimerDivs.l0 kq a1 t212 x7_1 a0_0 a0_1 a0_2 a0_3 a0_4 x214000_1 x214001_1 x214002_1 x214003_1 x214004_1 = some r) ∧ Aside0 (kq ≤ k) ∧ Aside0 (w'.heap[gb211]? = some (.cells #[.int .u16 a0_0, .int .u8 a0_1, .int .u8 a0_2, .int .u8 a0_3, .int .u8 a0_4] 24 (0, 0))) ∧ Aside0 (w'.heap[gb213]? = some (.cells #[.int .u16 x214000_1, .int .u8 x214001_1, .int .u8 x214002_1, .int .u8 x214003_1, .int .u8 x214004_1] 24 (0, 0))) ∧ Aside0 (Below w.heap.size w w'))
  case atStart => exact ⟨(0), (a0_0), (a0_1), (a0_2), (a0_3), (a0_4), (by first | rfl | (simp; done) | (simp [*]; done)), H', ⟨Nat.le_refl _⟩, ⟨by (with_reducible repeat (first | refine blk_drewN ?_ _ | refine blk_drew ?_ | refine blk_alloc ?_ _)); refine blk_far ?_ NB211_213.out _; (with_reducible repeat (first | refine blk_drewN ?_ _ | refine blk_drew ?_ | refine blk_alloc ?_ _)); refine blk_far ?_ NB211_213.out _; (with_reducible repeat (first | refine blk_drewN ?_ _ | refine blk_drew ?_ | refine blk_alloc ?_ _)); refine blk_far ?_ NB211_213.out _; (with_reducible repeat (first | refine blk_drewN ?_ _ | refine blk_drew ?_ | refine blk_alloc ?_ _)); refine blk_far ?_ NB211_213.out _; (with_reducible repeat (first | refine blk_drewN ?_ _ | refine blk_drew ?_ | refine blk_alloc ?_ _)); refine blk_far ?_ NB211_213.out _; (with_reducible repeat (first | refine blk_drewN ?_ _ | refine blk_drew ?_ | refine blk_alloc ?_ _)); exact BK211.out⟩, ⟨by (with_reducible repeat (first | refine blk_drewN ?_ _ | refine blk_drew ?_ | refine blk_alloc ?_ _)); refine blk_put (cs := #[.int .u16 a0_0, .int .u8 a0_1, .int .u8 a0_2, .int .u8 a0_3, .int .u8 0]) ?_ 4 _ rfl; (with_reducible repeat (first | refine blk_drewN ?_ _ | refine blk_drew ?_ | refine blk_alloc ?_ _)); refine blk_put (cs := #[.int .u16 a0_0, .int .u8 a0_1, .int .u8 a0_2, .int .u8 0, .int .u8 0]) ?_ 3 _ rfl; (with_reducible repeat (first | refine blk_drewN ?_ _ | refine blk_drew ?_ | refine blk_alloc ?_ _)); refine blk_put (cs := #[.int .u16 a0_0, .int .u8 a0_1, .int .u8 0, .int .u8 0, .int .u8 0]) ?_ 2 _ rfl; (with_reducible repeat (first | refine blk_drewN ?_ _ | refine blk_drew ?_ | refine blk_alloc ?_ _)); refine blk_put (cs := #[.int .u16 a0_0, .int .u8 0, .int .u8 0, .int .u8 0, .int .u8 0]) ?_ 1 _ rfl; (with_reducible repeat (first | refine blk_drewN ?_ _ | refine blk_drew ?_ | refine blk_alloc ?_ _)); refine blk_put (cs := #[.int .u16 0, .int .u8 0, .int .u8 0, .int .u8 0, .int .u8 0]) ?_ 0 _ rfl; (with_reducible repeat (first | refine blk_drewN ?_ _ | refine blk_drew ?_ | refine blk_alloc ?_ _)); exact BK213.out⟩, ⟨by repeat (first | (with_reducible first | exact HB.out | apply below_alloc | apply pw_below_drewN | apply below_drew1 | refine below_set ?_ GE211.out | refine below_set ?_ GE213.out) | exact HB.out)⟩⟩
  case round =>
    clear H'
    try clear c1
    try clear p2
    try clear c6
    try clear c8
    try clear hcz6_0
    try clear hcz6_1
    try clear hcz6_2
    try clear hcz6_3
    try clear hcz6_4
    try clear hcz9_0
    try clear hcz9_1
    try clear hcz9_2
    try clear hcz9_3
    try clear hcz9_4
    try clear hfz6_0
    try clear hfz6_1
    try clear hfz6_2
    try clear hfz6_3
    try clear hfz6_4
    try clear hfz9_0
    try clear hfz9_1
    try clear hfz9_2
    try clear hfz9_3
    try clear hfz9_4
    obtain ⟨x7_1, x214000_1, x214001_1, x214002_1, x214003_1, x214004_1, rfl, HA, HK1, BK211, BK213, HB⟩ := hrel
    cases gk with
    | zero => exact absurd HA.out (by simp [whirligiglaw11_TimerDivs.l0])
    | succ k1 =>
      have H := HA.out
      clear HA
      simp only [whirligiglaw11_TimerDivs.l0] at H
      by_cases c10 : x7_1 < (Int.tmod a1 2000)
      · rw [if_pos c10] at H
        have c10b0 : decide (x7_1 < (Int.tmod a1 2000)) = true := decide_eq_true c10
        clear c10
        replace H := Option.bind_eq_some_iff.mp H
        obtain ⟨⟨t214, t215, t216, t217, t218, t219⟩, A110, H⟩ := H
        replace H : (whirligiglaw11_TimerDivs.l0 k1 a1 t212 (IntKind.u16.wrap (x7_1 + 1)) a0_0 a0_1 a0_2 a0_3 a0_4 t214 t215 t216 t217 t218) = some r := H
        have A11 := Aside0.mk A110
        clear A110
        have H' := Aside0.mk H
        clear H
        have hnb12 := NB213_211.out
        have hnc12 := NB211_213.out
        have hcz13_0 : wr.cell? ⟨gb213, 0, none⟩ = some (.int .u16 x214000_1) := (blk_cell BK213.out 0).trans rfl
        have hcz13_1 : wr.cell? ⟨gb213, 1, none⟩ = some (.int .u8 x214001_1) := (blk_cell BK213.out 1).trans rfl
        have hcz13_2 : wr.cell? ⟨gb213, 2, none⟩ = some (.int .u8 x214002_1) := (blk_cell BK213.out 2).trans rfl
        have hcz13_3 : wr.cell? ⟨gb213, 3, none⟩ = some (.int .u8 x214003_1) := (blk_cell BK213.out 3).trans rfl
        have hcz13_4 : wr.cell? ⟨gb213, 4, none⟩ = some (.int .u8 x214004_1) := (blk_cell BK213.out 4).trans rfl
        have hfz13_0 := blk_frozen BK213.out 0
        have hfz13_1 := blk_frozen BK213.out 1
        have hfz13_2 := blk_frozen BK213.out 2
        have hfz13_3 := blk_frozen BK213.out 3
        have hfz13_4 := blk_frozen BK213.out 4
        go_wp2_with (first | ((with_reducible refine gate_callee (f := 13) rfl ?_); refine goesL_ (some 18) rfl rfl Try.func13 (by kernel_rfl) rfl #[.agg #[.int .u16 x214000_1, .int .u8 x214001_1, .int .u8 x214002_1, .int .u8 x214003_1, .int .u8 x214004_1]] rfl (by (try simp only [List.map_toArray, List.map_cons, List.map_nil]); first | done | rfl | (simp only [List.length_drop, List.length_take]; rfl)) ?_; (with_reducible refine (timer_Step.calls k1 x214000_1 x214001_1 x214002_1 x214003_1 x214004_1 t214 t215 t216 t217 t218 t219 _ A11.out).mono ?_); rintro e w14 ⟨rfl, hb⟩; refine ⟨_, rfl, ?_⟩; have n0_ := Aside0.mk (blk_below (g := gb211) (o := .cells #[.int .u16 a0_0, .int .u8 a0_1, .int .u8 a0_2, .int .u8 a0_3, .int .u8 a0_4] 24 (0, 0)) (by (with_reducible repeat (first | refine blk_drewN ?_ _ | refine blk_drew ?_ | refine blk_alloc ?_ _)); exact BK211.out) hb); have n1_ := Aside0.mk (blk_below (g := gb213) (o := .cells #[.int .u16 x214000_1, .int .u8 x214001_1, .int .u8 x214002_1, .int .u8 x214003_1, .int .u8 x214004_1] 24 (0, 0)) (by (with_reducible repeat (first | refine blk_drewN ?_ _ | refine blk_drew ?_ | refine blk_alloc ?_ _)); exact BK213.out) hb); have n2_ := Aside0.mk (below_step (by repeat (first | (with_reducible first | exact HB.out | apply below_alloc | apply pw_below_drewN | apply below_drew1 | refine below_set ?_ GE211.out | refine below_set ?_ GE213.out) | exact HB.out)) hb); clear BK211; clear BK213; clear HB; have BK211 := n0_; have BK213 := n1_; have HB := n2_; clear n0_ n1_ n2_; (try clear hb); (try clear hb2); (try clear hk); (try clear hi); have hcz15_0 : w14.cell? ⟨gb213, 0, none⟩ = some (.int .u16 x214000_1) := (blk_cell BK213.out 0).trans rfl; have hcz15_1 : w14.cell? ⟨gb213, 1, none⟩ = some (.int .u8 x214001_1) := (blk_cell BK213.out 1).trans rfl; have hcz15_2 : w14.cell? ⟨gb213, 2, none⟩ = some (.int .u8 x214002_1) := (blk_cell BK213.out 2).trans rfl; have hcz15_3 : w14.cell? ⟨gb213, 3, none⟩ = some (.int .u8 x214003_1) := (blk_cell BK213.out 3).trans rfl; have hcz15_4 : w14.cell? ⟨gb213, 4, none⟩ = some (.int .u8 x214004_1) := (blk_cell BK213.out 4).trans rfl; have hfz15_0 := blk_frozen BK213.out 0; have hfz15_1 := blk_frozen BK213.out 1; have hfz15_2 := blk_frozen BK213.out 2; have hfz15_3 := blk_frozen BK213.out 3; have hfz15_4 := blk_frozen BK213.out 4))
        go_roundg k1
        case measure => have := HK1.out; omega
        case rel => exact ⟨(IntKind.u16.wrap (x7_1 + 1)), (t214), (t215), (t216), (t217), (t218), (by first | rfl | (simp; done) | (simp [*]; done)), H', ⟨by have := HK1.out; omega⟩, ⟨by (with_reducible repeat (first | refine blk_drewN ?_ _ | refine blk_drew ?_ | refine blk_alloc ?_ _)); refine blk_far ?_ NB211_213.out _; (with_reducible repeat (first | refine blk_drewN ?_ _ | refine blk_drew ?_ | refine blk_alloc ?_ _)); refine blk_far ?_ NB211_213.out _; (with_reducible repeat (first | refine blk_drewN ?_ _ | refine blk_drew ?_ | refine blk_alloc ?_ _)); refine blk_far ?_ NB211_213.out _; (with_reducible repeat (first | refine blk_drewN ?_ _ | refine blk_drew ?_ | refine blk_alloc ?_ _)); refine blk_far ?_ NB211_213.out _; (with_reducible repeat (first | refine blk_drewN ?_ _ | refine blk_drew ?_ | refine blk_alloc ?_ _)); refine blk_far ?_ NB211_213.out _; (with_reducible repeat (first | refine blk_drewN ?_ _ | refine blk_drew ?_ | refine blk_alloc ?_ _)); exact BK211.out⟩, ⟨by (with_reducible repeat (first | refine blk_drewN ?_ _ | refine blk_drew ?_ | refine blk_alloc ?_ _)); refine blk_put (cs := #[.int .u16 t214, .int .u8 t215, .int .u8 t216, .int .u8 t217, .int .u8 x214004_1]) ?_ 4 _ rfl; (with_reducible repeat (first | refine blk_drewN ?_ _ | refine blk_drew ?_ | refine blk_alloc ?_ _)); refine blk_put (cs := #[.int .u16 t214, .int .u8 t215, .int .u8 t216, .int .u8 x214003_1, .int .u8 x214004_1]) ?_ 3 _ rfl; (with_reducible repeat (first | refine blk_drewN ?_ _ | refine blk_drew ?_ | refine blk_alloc ?_ _)); refine blk_put (cs := #[.int .u16 t214, .int .u8 t215, .int .u8 x214002_1, .int .u8 x214003_1, .int .u8 x214004_1]) ?_ 2 _ rfl; (with_reducible repeat (first | refine blk_drewN ?_ _ | refine blk_drew ?_ | refine blk_alloc ?_ _)); refine blk_put (cs := #[.int .u16 t214, .int .u8 x214001_1, .int .u8 x214002_1, .int .u8 x214003_1, .int .u8 x214004_1]) ?_ 1 _ rfl; (with_reducible repeat (first | refine blk_drewN ?_ _ | refine blk_drew ?_ | refine blk_alloc ?_ _)); refine blk_put (cs := #[.int .u16 x214000_1, .int .u8 x214001_1, .int .u8 x214002_1, .int .u8 x214003_1, .int .u8 x214004_1]) ?_ 0 _ rfl; (with_reducible repeat (first | refine blk_drewN ?_ _ | refine blk_drew ?_ | refine blk_alloc ?_ _)); exact BK213.out⟩, ⟨by repeat (first | (with_reducible first | exact HB.out | apply below_alloc | apply pw_below_drewN | apply below_drew1 | refine below_set ?_ GE211.out | refine below_set ?_ GE213.out) | exact HB.out)⟩⟩
      · rw [if_neg c10] at H
        have c10b0 : decide (x7_1 < (Int.tmod a1 2000)) = false := decide_eq_false c10
        clear c10
        by_cases c16 : t212 = true
        · subst c16
          have H1 : (if x214000_1 = (IntKind.u16.wrap (a0_0 + (IntKind.u16.wrap (4 * (Int.tmod a1 2000))))) then (if x214002_1 = a0_2 then (some (x214003_1 == a0_3)) else (some false)) else (some false)) = some r := by rw [if_pos rfl] at H; exact H
          clear H
          have H := H1
          clear H1
          by_cases c17 : x214000_1 = (IntKind.u16.wrap (a0_0 + (IntKind.u16.wrap (4 * (Int.tmod a1 2000)))))
          · rw [if_pos c17] at H
            have c17b0 : (x214000_1 == (IntKind.u16.wrap (a0_0 + (IntKind.u16.wrap (4 * (Int.tmod a1 2000)))))) = true := beq_iff_eq.mpr c17
            have c17b1 : (x214000_1 != (IntKind.u16.wrap (a0_0 + (IntKind.u16.wrap (4 * (Int.tmod a1 2000)))))) = false := bne_eq_false_iff_eq.mpr c17
            clear c17
            by_cases c18 : x214002_1 = a0_2
            · rw [if_pos c18] at H
              have c18b0 : (x214002_1 == a0_2) = true := beq_iff_eq.mpr c18
              have c18b1 : (x214002_1 != a0_2) = false := bne_eq_false_iff_eq.mpr c18
              clear c18
              obtain rfl := Option.some.inj H
              have hnb19 := NB213_211.out
              have hnc19 := NB211_213.out
              have hcz20_0 : wr.cell? ⟨gb213, 0, none⟩ = some (.int .u16 x214000_1) := (blk_cell BK213.out 0).trans rfl
              have hcz20_1 : wr.cell? ⟨gb213, 1, none⟩ = some (.int .u8 x214001_1) := (blk_cell BK213.out 1).trans rfl
              have hcz20_2 : wr.cell? ⟨gb213, 2, none⟩ = some (.int .u8 x214002_1) := (blk_cell BK213.out 2).trans rfl
              have hcz20_3 : wr.cell? ⟨gb213, 3, none⟩ = some (.int .u8 x214003_1) := (blk_cell BK213.out 3).trans rfl
              have hcz20_4 : wr.cell? ⟨gb213, 4, none⟩ = some (.int .u8 x214004_1) := (blk_cell BK213.out 4).trans rfl
              have hfz20_0 := blk_frozen BK213.out 0
              have hfz20_1 := blk_frozen BK213.out 1
              have hfz20_2 := blk_frozen BK213.out 2
              have hfz20_3 := blk_frozen BK213.out 3
              have hfz20_4 := blk_frozen BK213.out 4
              have hcz21_0 : wr.cell? ⟨gb211, 0, none⟩ = some (.int .u16 a0_0) := (blk_cell BK211.out 0).trans rfl
              have hcz21_1 : wr.cell? ⟨gb211, 1, none⟩ = some (.int .u8 a0_1) := (blk_cell BK211.out 1).trans rfl
              have hcz21_2 : wr.cell? ⟨gb211, 2, none⟩ = some (.int .u8 a0_2) := (blk_cell BK211.out 2).trans rfl
              have hcz21_3 : wr.cell? ⟨gb211, 3, none⟩ = some (.int .u8 a0_3) := (blk_cell BK211.out 3).trans rfl
              have hcz21_4 : wr.cell? ⟨gb211, 4, none⟩ = some (.int .u8 a0_4) := (blk_cell BK211.out 4).trans rfl
              have hfz21_0 := blk_frozen BK211.out 0
              have hfz21_1 := blk_frozen BK211.out 1
              have hfz21_2 := blk_frozen BK211.out 2
              have hfz21_3 := blk_frozen BK211.out 3
              have hfz21_4 := blk_frozen BK211.out 4
              go_wp2
              go_ret
              exact ⟨by first | rfl | (simp [errW_none, errW_some] <;> rfl) | (simp [*, errW_none, errW_some] <;> rfl), by repeat (first | (with_reducible first | exact HB.out | apply below_alloc | apply pw_below_drewN | apply below_drew1 | refine below_set ?_ GE211.out | refine below_set ?_ GE213.out) | exact HB.out)⟩
            · rw [if_neg c18] at H
              have c18b0 : (x214002_1 == a0_2) = false := beq_eq_false_iff_ne.mpr c18
              have c18b1 : (x214002_1 != a0_2) = true := bne_iff_ne.mpr c18
              obtain rfl := Option.some.inj H
              have hnb22 := NB213_211.out
              have hnc22 := NB211_213.out
              have hcz23_0 : wr.cell? ⟨gb213, 0, none⟩ = some (.int .u16 x214000_1) := (blk_cell BK213.out 0).trans rfl
              have hcz23_1 : wr.cell? ⟨gb213, 1, none⟩ = some (.int .u8 x214001_1) := (blk_cell BK213.out 1).trans rfl
              have hcz23_2 : wr.cell? ⟨gb213, 2, none⟩ = some (.int .u8 x214002_1) := (blk_cell BK213.out 2).trans rfl
              have hcz23_3 : wr.cell? ⟨gb213, 3, none⟩ = some (.int .u8 x214003_1) := (blk_cell BK213.out 3).trans rfl
              have hcz23_4 : wr.cell? ⟨gb213, 4, none⟩ = some (.int .u8 x214004_1) := (blk_cell BK213.out 4).trans rfl
              have hfz23_0 := blk_frozen BK213.out 0
              have hfz23_1 := blk_frozen BK213.out 1
              have hfz23_2 := blk_frozen BK213.out 2
              have hfz23_3 := blk_frozen BK213.out 3
              have hfz23_4 := blk_frozen BK213.out 4
              have hcz24_0 : wr.cell? ⟨gb211, 0, none⟩ = some (.int .u16 a0_0) := (blk_cell BK211.out 0).trans rfl
              have hcz24_1 : wr.cell? ⟨gb211, 1, none⟩ = some (.int .u8 a0_1) := (blk_cell BK211.out 1).trans rfl
              have hcz24_2 : wr.cell? ⟨gb211, 2, none⟩ = some (.int .u8 a0_2) := (blk_cell BK211.out 2).trans rfl
              have hcz24_3 : wr.cell? ⟨gb211, 3, none⟩ = some (.int .u8 a0_3) := (blk_cell BK211.out 3).trans rfl
              have hcz24_4 : wr.cell? ⟨gb211, 4, none⟩ = some (.int .u8 a0_4) := (blk_cell BK211.out 4).trans rfl
              have hfz24_0 := blk_frozen BK211.out 0
              have hfz24_1 := blk_frozen BK211.out 1
              have hfz24_2 := blk_frozen BK211.out 2
              have hfz24_3 := blk_frozen BK211.out 3
              have hfz24_4 := blk_frozen BK211.out 4
              go_wp2
              go_ret
              exact ⟨by first | rfl | (simp [errW_none, errW_some] <;> rfl) | (simp [*, errW_none, errW_some] <;> rfl), by repeat (first | (with_reducible first | exact HB.out | apply below_alloc | apply pw_below_drewN | apply below_drew1 | refine below_set ?_ GE211.out | refine below_set ?_ GE213.out) | exact HB.out)⟩
          · rw [if_neg c17] at H
            have c17b0 : (x214000_1 == (IntKind.u16.wrap (a0_0 + (IntKind.u16.wrap (4 * (Int.tmod a1 2000)))))) = false := beq_eq_false_iff_ne.mpr c17
            have c17b1 : (x214000_1 != (IntKind.u16.wrap (a0_0 + (IntKind.u16.wrap (4 * (Int.tmod a1 2000)))))) = true := bne_iff_ne.mpr c17
            obtain rfl := Option.some.inj H
            have hnb25 := NB213_211.out
            have hnc25 := NB211_213.out
            have hcz26_0 : wr.cell? ⟨gb213, 0, none⟩ = some (.int .u16 x214000_1) := (blk_cell BK213.out 0).trans rfl
            have hcz26_1 : wr.cell? ⟨gb213, 1, none⟩ = some (.int .u8 x214001_1) := (blk_cell BK213.out 1).trans rfl
            have hcz26_2 : wr.cell? ⟨gb213, 2, none⟩ = some (.int .u8 x214002_1) := (blk_cell BK213.out 2).trans rfl
            have hcz26_3 : wr.cell? ⟨gb213, 3, none⟩ = some (.int .u8 x214003_1) := (blk_cell BK213.out 3).trans rfl
            have hcz26_4 : wr.cell? ⟨gb213, 4, none⟩ = some (.int .u8 x214004_1) := (blk_cell BK213.out 4).trans rfl
            have hfz26_0 := blk_frozen BK213.out 0
            have hfz26_1 := blk_frozen BK213.out 1
            have hfz26_2 := blk_frozen BK213.out 2
            have hfz26_3 := blk_frozen BK213.out 3
            have hfz26_4 := blk_frozen BK213.out 4
            have hcz27_0 : wr.cell? ⟨gb211, 0, none⟩ = some (.int .u16 a0_0) := (blk_cell BK211.out 0).trans rfl
            have hcz27_1 : wr.cell? ⟨gb211, 1, none⟩ = some (.int .u8 a0_1) := (blk_cell BK211.out 1).trans rfl
            have hcz27_2 : wr.cell? ⟨gb211, 2, none⟩ = some (.int .u8 a0_2) := (blk_cell BK211.out 2).trans rfl
            have hcz27_3 : wr.cell? ⟨gb211, 3, none⟩ = some (.int .u8 a0_3) := (blk_cell BK211.out 3).trans rfl
            have hcz27_4 : wr.cell? ⟨gb211, 4, none⟩ = some (.int .u8 a0_4) := (blk_cell BK211.out 4).trans rfl
            have hfz27_0 := blk_frozen BK211.out 0
            have hfz27_1 := blk_frozen BK211.out 1
            have hfz27_2 := blk_frozen BK211.out 2
            have hfz27_3 := blk_frozen BK211.out 3
            have hfz27_4 := blk_frozen BK211.out 4
            go_wp2
            go_ret
            exact ⟨by first | rfl | (simp [errW_none, errW_some] <;> rfl) | (simp [*, errW_none, errW_some] <;> rfl), by repeat (first | (with_reducible first | exact HB.out | apply below_alloc | apply pw_below_drewN | apply below_drew1 | refine below_set ?_ GE211.out | refine below_set ?_ GE213.out) | exact HB.out)⟩
        · replace c16 := Bool.eq_false_iff.mpr c16
          subst c16
          have H1 : (some false) = some r := by rw [if_neg (show ¬ (false = true) by decide)] at H; exact H
          clear H
          have H := H1
          clear H1
          obtain rfl := Option.some.inj H
          go_wp2
          go_ret
          exact ⟨by first | rfl | (simp [errW_none, errW_some] <;> rfl) | (simp [*, errW_none, errW_some] <;> rfl), by repeat (first | (with_reducible first | exact HB.out | apply below_alloc | apply pw_below_drewN | apply below_drew1 | refine below_set ?_ GE211.out | refine below_set ?_ GE213.out) | exact HB.out)⟩

end Go.Proofs.Ytjfpbdecklkldaa.G
