/- Written by a program of this session, after the kit's print: Go functions as Lean functions, each with the proof that the Go text comes to it. -/
import Derived.Test.YtjfpbdecklkldaaG0
import Derived.Test.YtjfpbdecklkldaaG1
import Derived.Test.YtjfpbdecklkldaaG4
import Derived.Test.YtjfpbdecklkldaaG5
import Derived.Test.YtjfpbdecklkldaaG6
import Derived.Test.YtjfpbdecklkldaaG19
namespace Go.Proofs.Ytjfpbdecklkldaa.G
open Go.RowKit Go.Proofs.YtjfpbdecklkldaaW.PrintWords Go.Proofs.YtjfpbdecklkldaaW.PrintLast Go.Proofs.YtjfpbdecklkldaaW.PrintMore
attribute [local go_sem] max2_int min2_int max_two min_two max_three min_three max_four min_four   -- for this text's walks alone
set_option linter.unusedVariables false
set_option linter.unusedSimpArgs false

attribute [local go_sem high] eqA24
/-! ### whirligiglaw11_TimerLoads: function 9 -/
mutual
def whirligiglaw11_TimerLoads.l0 : Nat → Int → Int → Bool → Int → Int → Int → Int → Int → Int → Option (Bool)
  | 0, _, _, _, _, _, _, _, _, _ => none
  | k + 1, x1, x2, x7, x9, x239000, x239001, x239002, x239003, x239004 => if x239004 = 1 then (whirligiglaw11_TimerLoads.j1 k x1 x2 x7 x9 false x239000 x239001 x239002 x239003 x239004) else (whirligiglaw11_TimerLoads.j1 k x1 x2 x7 x9 (decide (x9 < 8)) x239000 x239001 x239002 x239003 x239004)
def whirligiglaw11_TimerLoads.j1 : Nat → Int → Int → Bool → Int → Bool → Int → Int → Int → Int → Int → Option (Bool)
  | 0, _, _, _, _, _, _, _, _, _, _ => none
  | k + 1, x1, x2, x7, x9, x29, x239000, x239001, x239002, x239003, x239004 => if x29 = true then ((timer_Step.f k x239000 x239001 x239002 x239003 x239004).bind fun bt239 => (if bt239.2.2.2.2.2 = true then (some false) else (whirligiglaw11_TimerLoads.l0 k x1 x2 x7 (wrap64 (x9 + 1)) bt239.1 bt239.2.1 bt239.2.2.1 bt239.2.2.2.1 bt239.2.2.2.2.1))) else (if x9 > 4 then (whirligiglaw11_TimerLoads.j2 k x1 x2 x7 true x239000 x239001 x239002 x239003 x239004) else (if x239001 = 0 then ((timer_Read.f x239000 x239001 x239002 x239003 x239004 65285).bind fun t245 => (whirligiglaw11_TimerLoads.j2 k x1 x2 x7 (t245 != 0) x239000 x239001 x239002 x239003 x239004)) else (whirligiglaw11_TimerLoads.j2 k x1 x2 x7 true x239000 x239001 x239002 x239003 x239004)))
def whirligiglaw11_TimerLoads.j2 : Nat → Int → Int → Bool → Bool → Int → Int → Int → Int → Int → Option (Bool)
  | 0, _, _, _, _, _, _, _, _, _ => none
  | k + 1, x1, x2, x7, x49, x239000, x239001, x239002, x239003, x239004 => if x49 = true then (some false) else ((timer_Step.f k x239000 x239001 x239002 x239003 x239004).bind fun bt246 => ((timer_Write.f k bt246.1 bt246.2.1 bt246.2.2.1 bt246.2.2.2.1 bt246.2.2.2.2.1 65285 x2).bind fun bt253 => ((timer_Write.f k bt246.1 bt246.2.1 bt246.2.2.1 bt246.2.2.2.1 bt246.2.2.2.2.1 65286 x2).bind fun bt259 => ((timer_Write.f k x239000 x239001 x239002 x239003 x239004 65285 x2).bind fun bt265 => ((timer_Step.f k bt265.1 bt265.2.1 bt265.2.2.1 bt265.2.2.2.1 bt265.2.2.2.2).bind fun bt270 => ((timer_Step.f k bt246.1 bt246.2.1 bt246.2.2.1 bt246.2.2.2.1 bt246.2.2.2.2.1).bind fun bt277 => (if x7 = true then (if bt246.2.2.2.2.2 = true then (if bt246.2.1 = x1 then (if (bt253.1 == bt246.1 && (bt253.2.1 == bt246.2.1 && (bt253.2.2.1 == bt246.2.2.1 && (bt253.2.2.2.1 == bt246.2.2.2.1 && (bt253.2.2.2.2 == bt246.2.2.2.2.1))))) = true then (if bt259.2.1 = x2 then (if bt259.2.2.1 = x2 then (if bt270.2.2.2.2.2 = true then (some false) else (if bt270.2.1 = x2 then (if bt270.2.2.2.2.1 = 0 then (some (!bt277.2.2.2.2.2)) else (some false)) else (some false))) else (some false)) else (some false)) else (some false)) else (some false)) else (some false)) else (some false))))))))
end
def whirligiglaw11_TimerLoads.f (k : Nat) (a0 : Int) (a1 : Int) (a2 : Int) : Option (Bool) := (whirligiglaw11_shown.f k).bind fun t237 => (whirligiglaw11_TimerLoads.l0 k a1 a2 t237 0 a0 255 a1 5 0)
theorem whirligiglaw11_TimerLoads.mono_l : ∀ k, (∀ y0 y1 y2 y3 y4 y5 y6 y7 y8, LeO (whirligiglaw11_TimerLoads.l0 k y0 y1 y2 y3 y4 y5 y6 y7 y8) (whirligiglaw11_TimerLoads.l0 (k + 1) y0 y1 y2 y3 y4 y5 y6 y7 y8)) ∧ (∀ y0 y1 y2 y3 y4 y5 y6 y7 y8 y9, LeO (whirligiglaw11_TimerLoads.j1 k y0 y1 y2 y3 y4 y5 y6 y7 y8 y9) (whirligiglaw11_TimerLoads.j1 (k + 1) y0 y1 y2 y3 y4 y5 y6 y7 y8 y9)) ∧ (∀ y0 y1 y2 y3 y4 y5 y6 y7 y8, LeO (whirligiglaw11_TimerLoads.j2 k y0 y1 y2 y3 y4 y5 y6 y7 y8) (whirligiglaw11_TimerLoads.j2 (k + 1) y0 y1 y2 y3 y4 y5 y6 y7 y8))
  | 0 => ⟨fun _ _ _ _ _ _ _ _ _ r h => by simp [whirligiglaw11_TimerLoads.l0] at h, fun _ _ _ _ _ _ _ _ _ _ r h => by simp [whirligiglaw11_TimerLoads.j1] at h, fun _ _ _ _ _ _ _ _ _ r h => by simp [whirligiglaw11_TimerLoads.j2] at h⟩
  | k + 1 => by
    obtain ⟨ih0, ih1, ih2⟩ := whirligiglaw11_TimerLoads.mono_l k
    refine ⟨?_, ?_, ?_⟩
    · intro y0 y1 y2 y3 y4 y5 y6 y7 y8
      unfold whirligiglaw11_TimerLoads.l0
      repeat' first
      | (with_reducible exact ih0 _ _ _ _ _ _ _ _ _)
      | (with_reducible exact ih1 _ _ _ _ _ _ _ _ _ _)
      | (with_reducible exact ih2 _ _ _ _ _ _ _ _ _)
      | (with_reducible exact timer_Step.mono _ _ _ _ _ _)
      | (with_reducible exact timer_Write.mono _ _ _ _ _ _ _ _)
      | (with_reducible exact whirligiglaw11_shown.mono _)
      | (with_reducible exact LeO.refl _)
      | (with_reducible exact LeO.none _)
      | (with_reducible refine LeO.ite ?_ ?_)
      | (with_reducible refine LeO.bind ?_ (fun _ => ?_))
      | exact ih0 _ _ _ _ _ _ _ _ _
      | exact ih1 _ _ _ _ _ _ _ _ _ _
      | exact ih2 _ _ _ _ _ _ _ _ _
      | exact timer_Step.mono _ _ _ _ _ _
      | exact timer_Write.mono _ _ _ _ _ _ _ _
      | exact whirligiglaw11_shown.mono _
      | exact LeO.none _
      | refine LeO.ite ?_ ?_
      | refine LeO.bind ?_ (fun _ => ?_)
    · intro y0 y1 y2 y3 y4 y5 y6 y7 y8 y9
      unfold whirligiglaw11_TimerLoads.j1
      repeat' first
      | (with_reducible exact ih0 _ _ _ _ _ _ _ _ _)
      | (with_reducible exact ih1 _ _ _ _ _ _ _ _ _ _)
      | (with_reducible exact ih2 _ _ _ _ _ _ _ _ _)
      | (with_reducible exact timer_Step.mono _ _ _ _ _ _)
      | (with_reducible exact timer_Write.mono _ _ _ _ _ _ _ _)
      | (with_reducible exact whirligiglaw11_shown.mono _)
      | (with_reducible exact LeO.refl _)
      | (with_reducible exact LeO.none _)
      | (with_reducible refine LeO.ite ?_ ?_)
      | (with_reducible refine LeO.bind ?_ (fun _ => ?_))
      | exact ih0 _ _ _ _ _ _ _ _ _
      | exact ih1 _ _ _ _ _ _ _ _ _ _
      | exact ih2 _ _ _ _ _ _ _ _ _
      | exact timer_Step.mono _ _ _ _ _ _
      | exact timer_Write.mono _ _ _ _ _ _ _ _
      | exact whirligiglaw11_shown.mono _
      | exact LeO.none _
      | refine LeO.ite ?_ ?_
      | refine LeO.bind ?_ (fun _ => ?_)
    · intro y0 y1 y2 y3 y4 y5 y6 y7 y8
      unfold whirligiglaw11_TimerLoads.j2
      repeat' first
      | (with_reducible exact ih0 _ _ _ _ _ _ _ _ _)
      | (with_reducible exact ih1 _ _ _ _ _ _ _ _ _ _)
      | (with_reducible exact ih2 _ _ _ _ _ _ _ _ _)
      | (with_reducible exact timer_Step.mono _ _ _ _ _ _)
      | (with_reducible exact timer_Write.mono _ _ _ _ _ _ _ _)
      | (with_reducible exact whirligiglaw11_shown.mono _)
      | (with_reducible exact LeO.refl _)
      | (with_reducible exact LeO.none _)
      | (with_reducible refine LeO.ite ?_ ?_)
      | (with_reducible refine LeO.bind ?_ (fun _ => ?_))
      | exact ih0 _ _ _ _ _ _ _ _ _
      | exact ih1 _ _ _ _ _ _ _ _ _ _
      | exact ih2 _ _ _ _ _ _ _ _ _
      | exact timer_Step.mono _ _ _ _ _ _
      | exact timer_Write.mono _ _ _ _ _ _ _ _
      | exact whirligiglaw11_shown.mono _
      | exact LeO.none _
      | refine LeO.ite ?_ ?_
      | refine LeO.bind ?_ (fun _ => ?_)
theorem whirligiglaw11_TimerLoads.mono : ∀ a0 a1 a2 k, LeO (whirligiglaw11_TimerLoads.f k a0 a1 a2) (whirligiglaw11_TimerLoads.f (k + 1) a0 a1 a2) := by
  intro a0 a1 a2 k
  obtain ⟨ih0, ih1, ih2⟩ := whirligiglaw11_TimerLoads.mono_l k
  unfold whirligiglaw11_TimerLoads.f
  repeat' first
      | (with_reducible exact ih0 _ _ _ _ _ _ _ _ _)
      | (with_reducible exact ih1 _ _ _ _ _ _ _ _ _ _)
      | (with_reducible exact ih2 _ _ _ _ _ _ _ _ _)
      | (with_reducible exact timer_Step.mono _ _ _ _ _ _)
      | (with_reducible exact timer_Write.mono _ _ _ _ _ _ _ _)
      | (with_reducible exact whirligiglaw11_shown.mono _)
      | (with_reducible exact LeO.refl _)
      | (with_reducible exact LeO.none _)
      | (with_reducible refine LeO.ite ?_ ?_)
      | (with_reducible refine LeO.bind ?_ (fun _ => ?_))
      | exact ih0 _ _ _ _ _ _ _ _ _
      | exact ih1 _ _ _ _ _ _ _ _ _ _
      | exact ih2 _ _ _ _ _ _ _ _ _
      | exact timer_Step.mono _ _ _ _ _ _
      | exact timer_Write.mono _ _ _ _ _ _ _ _
      | exact whirligiglaw11_shown.mono _
      | exact LeO.none _
      | refine LeO.ite ?_ ?_
      | refine LeO.bind ?_ (fun _ => ?_)
set_option maxHeartbeats 8000000 in
set_option maxRecDepth 100000 in
theorem whirligiglaw11_TimerLoads.calls (k : Nat) (a0 : Int) (a1 : Int) (a2 : Int) (r : Bool) (w : World) (h : whirligiglaw11_TimerLoads.f k a0 a1 a2 = some r) (ht : r = true) :
    Calls Try.prog 9 #[.int .u16 a0, .int .u8 a1, .int .u8 a2] w fun e w' => e = .returned (.bool r) ∧ Below w.heap.size w w' := by
  have HT := Aside0.mk ht
  clear ht
  have hu24 := Try.underlying24
  have HB := Aside0.mk (Below.refl w.heap.size w)
  have H : ((whirligiglaw11_shown.f k).bind fun t237 => (whirligiglaw11_TimerLoads.l0 k a1 a2 t237 0 a0 255 a1 5 0)) = some r := h
  clear h
  replace H := Option.bind_eq_some_iff.mp H
  obtain ⟨t237, A40, H⟩ := H
  replace H : (whirligiglaw11_TimerLoads.l0 k a1 a2 t237 0 a0 255 a1 5 0) = some r := H
  have A4 := Aside0.mk A40
  clear A40
  have H' := Aside0.mk H
  clear H
  go_enter Try.func9, Try.ntmps9
  go_wp2_with (first | ((with_reducible refine gate_callee (f := 10) rfl ?_); refine goesL_ (some 19) rfl rfl Try.func10 (by kernel_rfl) rfl #[] rfl (by (try simp only [List.map_toArray, List.map_cons, List.map_nil]); first | done | rfl | (simp only [List.length_drop, List.length_take]; rfl)) ?_; (with_reducible refine (whirligiglaw11_shown.calls k  t237 _ A4.out).mono ?_); rintro e w5 ⟨rfl, hb⟩; refine ⟨_, rfl, ?_⟩; have n0_ := Aside0.mk (below_step (by repeat (first | (with_reducible first | exact HB.out | apply below_alloc | apply pw_below_drewN | apply below_drew1) | exact HB.out)) hb); clear HB; have HB := n0_; clear n0_; (try clear hb); (try clear hb2); (try clear hk); (try clear hi)) | ((with_reducible refine gate_dst (N := 8) rfl ?_); refine box_event ?hg (N := 8) ?hd (cs := #[.int .u16 0, .int .u8 0, .int .u8 0, .int .u8 0, .int .u8 0]) (t := 24) ?hr ?_; (case hd => rfl); (case hg => rfl); (case hr => first | (go_simp; done) | (go_simp; rfl)); intro gb238 hg w6 hbox hb; have n0_ := Aside0.mk (below_step (by repeat (first | (with_reducible first | exact HB.out | apply below_alloc | apply pw_below_drewN | apply below_drew1) | exact HB.out)) hb); have n1_ := Aside0.mk (hbox); have n2_ := Aside0.mk ((by rw [hg]; exact (below_size (by repeat (first | (with_reducible first | exact HB.out | apply below_alloc | apply pw_below_drewN | apply below_drew1) | exact HB.out))) : w.heap.size ≤ gb238)); have n3_ := Aside0.mk ((by rw [hg]; exact (below_size (by repeat (first | (with_reducible first | exact HB.out | apply below_alloc | apply pw_below_drewN | apply below_drew1) | exact HB.out))) : w.heap.size ≤ gb238)); clear HB; have HB := n0_; have BK238 := n1_; have GW238 := n2_; have GE238 := n3_; clear n0_ n1_ n2_ n3_; clear hb hbox hg; have hcz7_0 : w6.cell? ⟨gb238, 0, none⟩ = some (.int .u16 0) := (blk_cell BK238.out 0).trans rfl; have hcz7_1 : w6.cell? ⟨gb238, 1, none⟩ = some (.int .u8 0) := (blk_cell BK238.out 1).trans rfl; have hcz7_2 : w6.cell? ⟨gb238, 2, none⟩ = some (.int .u8 0) := (blk_cell BK238.out 2).trans rfl; have hcz7_3 : w6.cell? ⟨gb238, 3, none⟩ = some (.int .u8 0) := (blk_cell BK238.out 3).trans rfl; have hcz7_4 : w6.cell? ⟨gb238, 4, none⟩ = some (.int .u8 0) := (blk_cell BK238.out 4).trans rfl; have hfz7_0 := blk_frozen BK238.out 0; have hfz7_1 := blk_frozen BK238.out 1; have hfz7_2 := blk_frozen BK238.out 2; have hfz7_3 := blk_frozen BK238.out 3; have hfz7_4 := blk_frozen BK238.out 4))
  go_loopg [9] k (fun kq v9 w' => ∃ (x9_1 : Int) (x239000_1 : Int) (x239001_1 : Int) (x239002_1 : Int) (x239003_1 : Int) (x239004_1 : Int), v9 = .int .i64 x9_1 ∧ Aside0 (whirligiglaw11_TimerLoads.l0 kq a1 a2 t237 x9_1 x239000_1 x239001_1 x239002_1 x239003_1 x239004_1 = some r) ∧ Aside0 (kq ≤ k) ∧ Aside0 (w'.heap[gb238]? = some (.cells #[.int .u16 x239000_1, .int .u8 x239001_1, .int .u8 x239002_1, .int .u8 x239003_1, .int .u8 x239004_1] 24 (0, 0))) ∧ Aside0 (Below w.heap.size w w'))
  case atStart => exact ⟨(0), (a0), (255), (a1), (5), (0), (by first | rfl | (simp; done) | (simp [*]; done)), H', ⟨Nat.le_refl _⟩, ⟨by (with_reducible repeat (first | refine blk_drewN ?_ _ | refine blk_drew ?_ | refine blk_alloc ?_ _)); refine blk_put (cs := #[.int .u16 a0, .int .u8 255, .int .u8 a1, .int .u8 5, .int .u8 0]) ?_ 4 _ rfl; (with_reducible repeat (first | refine blk_drewN ?_ _ | refine blk_drew ?_ | refine blk_alloc ?_ _)); refine blk_put (cs := #[.int .u16 a0, .int .u8 255, .int .u8 a1, .int .u8 0, .int .u8 0]) ?_ 3 _ rfl; (with_reducible repeat (first | refine blk_drewN ?_ _ | refine blk_drew ?_ | refine blk_alloc ?_ _)); refine blk_put (cs := #[.int .u16 a0, .int .u8 255, .int .u8 0, .int .u8 0, .int .u8 0]) ?_ 2 _ rfl; (with_reducible repeat (first | refine blk_drewN ?_ _ | refine blk_drew ?_ | refine blk_alloc ?_ _)); refine blk_put (cs := #[.int .u16 a0, .int .u8 0, .int .u8 0, .int .u8 0, .int .u8 0]) ?_ 1 _ rfl; (with_reducible repeat (first | refine blk_drewN ?_ _ | refine blk_drew ?_ | refine blk_alloc ?_ _)); refine blk_put (cs := #[.int .u16 0, .int .u8 0, .int .u8 0, .int .u8 0, .int .u8 0]) ?_ 0 _ rfl; (with_reducible repeat (first | refine blk_drewN ?_ _ | refine blk_drew ?_ | refine blk_alloc ?_ _)); exact BK238.out⟩, ⟨by repeat (first | (with_reducible first | exact HB.out | apply below_alloc | apply pw_below_drewN | apply below_drew1 | refine below_set ?_ GE238.out) | exact HB.out)⟩⟩
  case round =>
    clear H'
    try clear c1
    try clear p2
    try clear hcz7_0
    try clear hcz7_1
    try clear hcz7_2
    try clear hcz7_3
    try clear hcz7_4
    try clear hfz7_0
    try clear hfz7_1
    try clear hfz7_2
    try clear hfz7_3
    try clear hfz7_4
    obtain ⟨x9_1, x239000_1, x239001_1, x239002_1, x239003_1, x239004_1, rfl, HA, HK1, BK238, HB⟩ := hrel
    cases gk with
    | zero => exact absurd HA.out (by simp [whirligiglaw11_TimerLoads.l0])
    | succ k1 =>
      have H := HA.out
      clear HA
      simp only [whirligiglaw11_TimerLoads.l0] at H
      have HC8 := Aside0.mk H
      clear H
      go_upto_region 4 with (fail)
      go_cut [29] (fun v29 wc => ∃ (kq : Nat) (x29_7 : Bool), v29 = .bool x29_7 ∧ Aside0 (whirligiglaw11_TimerLoads.j1 kq a1 a2 t237 x9_1 x29_7 x239000_1 x239001_1 x239002_1 x239003_1 x239004_1 = some r) ∧ Aside0 (kq ≤ k1) ∧ Aside0 (wc.heap[gb238]? = some (.cells #[.int .u16 x239000_1, .int .u8 x239001_1, .int .u8 x239002_1, .int .u8 x239003_1, .int .u8 x239004_1] 24 (0, 0))) ∧ Aside0 (Below w.heap.size w wc))
      case first =>
        have H := HC8.out
        clear HC8
        by_cases c9 : x239004_1 = 1
        · rw [if_pos c9] at H
          have c9b0 : (x239004_1 == 1) = true := beq_iff_eq.mpr c9
          have c9b1 : (x239004_1 != 1) = false := bne_eq_false_iff_eq.mpr c9
          clear c9
          (first | rw [c9b0] | (simp only [i64_w, i32_w]; rw [c9b0]) | skip)
          have H' := Aside0.mk H
          clear H
          have hcz10_0 : wr.cell? ⟨gb238, 0, none⟩ = some (.int .u16 x239000_1) := (blk_cell BK238.out 0).trans rfl
          have hcz10_1 : wr.cell? ⟨gb238, 1, none⟩ = some (.int .u8 x239001_1) := (blk_cell BK238.out 1).trans rfl
          have hcz10_2 : wr.cell? ⟨gb238, 2, none⟩ = some (.int .u8 x239002_1) := (blk_cell BK238.out 2).trans rfl
          have hcz10_3 : wr.cell? ⟨gb238, 3, none⟩ = some (.int .u8 x239003_1) := (blk_cell BK238.out 3).trans rfl
          have hcz10_4 : wr.cell? ⟨gb238, 4, none⟩ = some (.int .u8 x239004_1) := (blk_cell BK238.out 4).trans rfl
          have hfz10_0 := blk_frozen BK238.out 0
          have hfz10_1 := blk_frozen BK238.out 1
          have hfz10_2 := blk_frozen BK238.out 2
          have hfz10_3 := blk_frozen BK238.out 3
          have hfz10_4 := blk_frozen BK238.out 4
          go_wp2
          go_meet
          case rel => exact ⟨_, (false), (by first | rfl | (simp; done) | (simp [*]; done)), H', ⟨by have := HK1.out; first | omega | exact Nat.le_refl _⟩, ⟨by (with_reducible repeat (first | refine blk_drewN ?_ _ | refine blk_drew ?_ | refine blk_alloc ?_ _)); exact BK238.out⟩, ⟨by repeat (first | (with_reducible first | exact HB.out | apply below_alloc | apply pw_below_drewN | apply below_drew1 | refine below_set ?_ GE238.out) | exact HB.out)⟩⟩
        · rw [if_neg c9] at H
          have c9b0 : (x239004_1 == 1) = false := beq_eq_false_iff_ne.mpr c9
          have c9b1 : (x239004_1 != 1) = true := bne_iff_ne.mpr c9
          (first | rw [c9b0] | (simp only [i64_w, i32_w]; rw [c9b0]) | skip)
          have H' := Aside0.mk H
          clear H
          have hcz11_0 : wr.cell? ⟨gb238, 0, none⟩ = some (.int .u16 x239000_1) := (blk_cell BK238.out 0).trans rfl
          have hcz11_1 : wr.cell? ⟨gb238, 1, none⟩ = some (.int .u8 x239001_1) := (blk_cell BK238.out 1).trans rfl
          have hcz11_2 : wr.cell? ⟨gb238, 2, none⟩ = some (.int .u8 x239002_1) := (blk_cell BK238.out 2).trans rfl
          have hcz11_3 : wr.cell? ⟨gb238, 3, none⟩ = some (.int .u8 x239003_1) := (blk_cell BK238.out 3).trans rfl
          have hcz11_4 : wr.cell? ⟨gb238, 4, none⟩ = some (.int .u8 x239004_1) := (blk_cell BK238.out 4).trans rfl
          have hfz11_0 := blk_frozen BK238.out 0
          have hfz11_1 := blk_frozen BK238.out 1
          have hfz11_2 := blk_frozen BK238.out 2
          have hfz11_3 := blk_frozen BK238.out 3
          have hfz11_4 := blk_frozen BK238.out 4
          go_wp2
          go_meet
          case rel => exact ⟨_, (decide (x9_1 < 8)), (by first | rfl | (simp; done) | (simp [*]; done)), H', ⟨by have := HK1.out; first | omega | exact Nat.le_refl _⟩, ⟨by (with_reducible repeat (first | refine blk_drewN ?_ _ | refine blk_drew ?_ | refine blk_alloc ?_ _)); exact BK238.out⟩, ⟨by repeat (first | (with_reducible first | exact HB.out | apply below_alloc | apply pw_below_drewN | apply below_drew1 | refine below_set ?_ GE238.out) | exact HB.out)⟩⟩
      case rest =>
        clear HC8
        try clear c1
        try clear p2
        try clear c9
        try clear c9b0
        try clear c9b1
        try clear c10
        try clear hcz10_0
        try clear hcz10_1
        try clear hcz10_2
        try clear hcz10_3
        try clear hcz10_4
        try clear hcz11_0
        try clear hcz11_1
        try clear hcz11_2
        try clear hcz11_3
        try clear hcz11_4
        try clear hcz7_0
        try clear hcz7_1
        try clear hcz7_2
        try clear hcz7_3
        try clear hcz7_4
        try clear hfz10_0
        try clear hfz10_1
        try clear hfz10_2
        try clear hfz10_3
        try clear hfz10_4
        try clear hfz11_0
        try clear hfz11_1
        try clear hfz11_2
        try clear hfz11_3
        try clear hfz11_4
        try clear hfz7_0
        try clear hfz7_1
        try clear hfz7_2
        try clear hfz7_3
        try clear hfz7_4
        try clear p2
        obtain ⟨kq, x29_7, rfl, HA, HJ7, BK238, HB⟩ := hcut
        cases kq with
        | zero => exact absurd HA.out (by simp [whirligiglaw11_TimerLoads.j1])
        | succ kj7 =>
          have H := HA.out
          clear HA
          simp only [whirligiglaw11_TimerLoads.j1] at H
          by_cases c12 : x29_7 = true
          · subst c12
            have H1 : ((timer_Step.f kj7 x239000_1 x239001_1 x239002_1 x239003_1 x239004_1).bind fun bt239 => (if bt239.2.2.2.2.2 = true then (some false) else (whirligiglaw11_TimerLoads.l0 kj7 a1 a2 t237 (wrap64 (x9_1 + 1)) bt239.1 bt239.2.1 bt239.2.2.1 bt239.2.2.2.1 bt239.2.2.2.2.1))) = some r := by rw [if_pos rfl] at H; exact H
            clear H
            have H := H1
            clear H1
            replace H := Option.bind_eq_some_iff.mp H
            obtain ⟨⟨t239, t240, t241, t242, t243, t244⟩, A130, H⟩ := H
            replace H : (if t244 = true then (some false) else (whirligiglaw11_TimerLoads.l0 kj7 a1 a2 t237 (wrap64 (x9_1 + 1)) t239 t240 t241 t242 t243)) = some r := H
            have A13 := Aside0.mk A130
            clear A130
            by_cases c14 : t244 = true
            · subst c14
              have H1 : (some false) = some r := by rw [if_pos rfl] at H; exact H
              clear H
              have H := H1
              clear H1
              exact absurd ((Option.some.inj H).trans HT.out) (by simp)
            · replace c14 := Bool.eq_false_iff.mpr c14
              subst c14
              have H1 : (whirligiglaw11_TimerLoads.l0 kj7 a1 a2 t237 (wrap64 (x9_1 + 1)) t239 t240 t241 t242 t243) = some r := by rw [if_neg (show ¬ (false = true) by decide)] at H; exact H
              clear H
              have H := H1
              clear H1
              have H' := Aside0.mk H
              clear H
              have hcz18_0 : wc.cell? ⟨gb238, 0, none⟩ = some (.int .u16 x239000_1) := (blk_cell BK238.out 0).trans rfl
              have hcz18_1 : wc.cell? ⟨gb238, 1, none⟩ = some (.int .u8 x239001_1) := (blk_cell BK238.out 1).trans rfl
              have hcz18_2 : wc.cell? ⟨gb238, 2, none⟩ = some (.int .u8 x239002_1) := (blk_cell BK238.out 2).trans rfl
              have hcz18_3 : wc.cell? ⟨gb238, 3, none⟩ = some (.int .u8 x239003_1) := (blk_cell BK238.out 3).trans rfl
              have hcz18_4 : wc.cell? ⟨gb238, 4, none⟩ = some (.int .u8 x239004_1) := (blk_cell BK238.out 4).trans rfl
              have hfz18_0 := blk_frozen BK238.out 0
              have hfz18_1 := blk_frozen BK238.out 1
              have hfz18_2 := blk_frozen BK238.out 2
              have hfz18_3 := blk_frozen BK238.out 3
              have hfz18_4 := blk_frozen BK238.out 4
              go_wp2_with (first | ((with_reducible refine gate_callee (f := 13) rfl ?_); refine goesL_ (some 32) rfl rfl Try.func13 (by kernel_rfl) rfl #[.agg #[.int .u16 x239000_1, .int .u8 x239001_1, .int .u8 x239002_1, .int .u8 x239003_1, .int .u8 x239004_1]] rfl (by (try simp only [List.map_toArray, List.map_cons, List.map_nil]); first | done | rfl | (simp only [List.length_drop, List.length_take]; rfl)) ?_; (with_reducible refine (timer_Step.calls kj7 x239000_1 x239001_1 x239002_1 x239003_1 x239004_1 t239 t240 t241 t242 t243 false _ A13.out).mono ?_); rintro e w19 ⟨rfl, hb⟩; refine ⟨_, rfl, ?_⟩; have n0_ := Aside0.mk (blk_below (g := gb238) (o := .cells #[.int .u16 x239000_1, .int .u8 x239001_1, .int .u8 x239002_1, .int .u8 x239003_1, .int .u8 x239004_1] 24 (0, 0)) (by (with_reducible repeat (first | refine blk_drewN ?_ _ | refine blk_drew ?_ | refine blk_alloc ?_ _)); exact BK238.out) hb); have n1_ := Aside0.mk (below_step (by repeat (first | (with_reducible first | exact HB.out | apply below_alloc | apply pw_below_drewN | apply below_drew1 | refine below_set ?_ GE238.out) | exact HB.out)) hb); clear BK238; clear HB; have BK238 := n0_; have HB := n1_; clear n0_ n1_; (try clear hb); (try clear hb2); (try clear hk); (try clear hi); have hcz20_0 : w19.cell? ⟨gb238, 0, none⟩ = some (.int .u16 x239000_1) := (blk_cell BK238.out 0).trans rfl; have hcz20_1 : w19.cell? ⟨gb238, 1, none⟩ = some (.int .u8 x239001_1) := (blk_cell BK238.out 1).trans rfl; have hcz20_2 : w19.cell? ⟨gb238, 2, none⟩ = some (.int .u8 x239002_1) := (blk_cell BK238.out 2).trans rfl; have hcz20_3 : w19.cell? ⟨gb238, 3, none⟩ = some (.int .u8 x239003_1) := (blk_cell BK238.out 3).trans rfl; have hcz20_4 : w19.cell? ⟨gb238, 4, none⟩ = some (.int .u8 x239004_1) := (blk_cell BK238.out 4).trans rfl; have hfz20_0 := blk_frozen BK238.out 0; have hfz20_1 := blk_frozen BK238.out 1; have hfz20_2 := blk_frozen BK238.out 2; have hfz20_3 := blk_frozen BK238.out 3; have hfz20_4 := blk_frozen BK238.out 4))
              go_roundg kj7
              case measure => have := HK1.out; have := HJ7.out; omega
              case rel => exact ⟨(wrap64 (x9_1 + 1)), (t239), (t240), (t241), (t242), (t243), (by first | rfl | (simp; done) | (simp [*]; done)), H', ⟨by have := HK1.out; have := HJ7.out; omega⟩, ⟨by (with_reducible repeat (first | refine blk_drewN ?_ _ | refine blk_drew ?_ | refine blk_alloc ?_ _)); refine blk_put (cs := #[.int .u16 t239, .int .u8 t240, .int .u8 t241, .int .u8 t242, .int .u8 x239004_1]) ?_ 4 _ rfl; (with_reducible repeat (first | refine blk_drewN ?_ _ | refine blk_drew ?_ | refine blk_alloc ?_ _)); refine blk_put (cs := #[.int .u16 t239, .int .u8 t240, .int .u8 t241, .int .u8 x239003_1, .int .u8 x239004_1]) ?_ 3 _ rfl; (with_reducible repeat (first | refine blk_drewN ?_ _ | refine blk_drew ?_ | refine blk_alloc ?_ _)); refine blk_put (cs := #[.int .u16 t239, .int .u8 t240, .int .u8 x239002_1, .int .u8 x239003_1, .int .u8 x239004_1]) ?_ 2 _ rfl; (with_reducible repeat (first | refine blk_drewN ?_ _ | refine blk_drew ?_ | refine blk_alloc ?_ _)); refine blk_put (cs := #[.int .u16 t239, .int .u8 x239001_1, .int .u8 x239002_1, .int .u8 x239003_1, .int .u8 x239004_1]) ?_ 1 _ rfl; (with_reducible repeat (first | refine blk_drewN ?_ _ | refine blk_drew ?_ | refine blk_alloc ?_ _)); refine blk_put (cs := #[.int .u16 x239000_1, .int .u8 x239001_1, .int .u8 x239002_1, .int .u8 x239003_1, .int .u8 x239004_1]) ?_ 0 _ rfl; (with_reducible repeat (first | refine blk_drewN ?_ _ | refine blk_drew ?_ | refine blk_alloc ?_ _)); exact BK238.out⟩, ⟨by repeat (first | (with_reducible first | exact HB.out | apply below_alloc | apply pw_below_drewN | apply below_drew1 | refine below_set ?_ GE238.out) | exact HB.out)⟩⟩
          · replace c12 := Bool.eq_false_iff.mpr c12
            subst c12
            have H1 : (if x9_1 > 4 then (whirligiglaw11_TimerLoads.j2 kj7 a1 a2 t237 true x239000_1 x239001_1 x239002_1 x239003_1 x239004_1) else (if x239001_1 = 0 then ((timer_Read.f x239000_1 x239001_1 x239002_1 x239003_1 x239004_1 65285).bind fun t245 => (whirligiglaw11_TimerLoads.j2 kj7 a1 a2 t237 (t245 != 0) x239000_1 x239001_1 x239002_1 x239003_1 x239004_1)) else (whirligiglaw11_TimerLoads.j2 kj7 a1 a2 t237 true x239000_1 x239001_1 x239002_1 x239003_1 x239004_1))) = some r := by rw [if_neg (show ¬ (false = true) by decide)] at H; exact H
            clear H
            have H := H1
            clear H1
            have HC21 := Aside0.mk H
            clear H
            go_upto_region 10 with (fail)
            go_cut [49] (fun v49 wc => ∃ (kq : Nat) (x49_20 : Bool), v49 = .bool x49_20 ∧ Aside0 (whirligiglaw11_TimerLoads.j2 kq a1 a2 t237 x49_20 x239000_1 x239001_1 x239002_1 x239003_1 x239004_1 = some r) ∧ Aside0 (kq ≤ kj7) ∧ Aside0 (wc.heap[gb238]? = some (.cells #[.int .u16 x239000_1, .int .u8 x239001_1, .int .u8 x239002_1, .int .u8 x239003_1, .int .u8 x239004_1] 24 (0, 0))) ∧ Aside0 (Below w.heap.size w wc))
            case first =>
              have H := HC21.out
              clear HC21
              by_cases c22 : x9_1 > 4
              · rw [if_pos c22] at H
                have c22b0 : decide (4 < x9_1) = true := decide_eq_true c22
                clear c22
                (first | rw [c22b0] | (simp only [i64_w, i32_w]; rw [c22b0]) | skip)
                have H' := Aside0.mk H
                clear H
                go_wp2
                go_meet
                case rel => exact ⟨_, (true), (by first | rfl | (simp; done) | (simp [*]; done)), H', ⟨by have := HK1.out; have := HJ7.out; first | omega | exact Nat.le_refl _⟩, ⟨by (with_reducible repeat (first | refine blk_drewN ?_ _ | refine blk_drew ?_ | refine blk_alloc ?_ _)); exact BK238.out⟩, ⟨by repeat (first | (with_reducible first | exact HB.out | apply below_alloc | apply pw_below_drewN | apply below_drew1 | refine below_set ?_ GE238.out) | exact HB.out)⟩⟩
              · rw [if_neg c22] at H
                have c22b0 : decide (4 < x9_1) = false := decide_eq_false c22
                clear c22
                (first | rw [c22b0] | (simp only [i64_w, i32_w]; rw [c22b0]) | skip)
                by_cases c23 : x239001_1 = 0
                · rw [if_pos c23] at H
                  have c23b0 : (x239001_1 == 0) = true := beq_iff_eq.mpr c23
                  have c23b1 : (x239001_1 != 0) = false := bne_eq_false_iff_eq.mpr c23
                  clear c23
                  replace H := Option.bind_eq_some_iff.mp H
                  obtain ⟨t245, A240, H⟩ := H
                  replace H : (whirligiglaw11_TimerLoads.j2 kj7 a1 a2 t237 (t245 != 0) x239000_1 x239001_1 x239002_1 x239003_1 x239004_1) = some r := H
                  have A24 := Aside0.mk A240
                  clear A240
                  have H' := Aside0.mk H
                  clear H
                  have hcz25_0 : wc.cell? ⟨gb238, 0, none⟩ = some (.int .u16 x239000_1) := (blk_cell BK238.out 0).trans rfl
                  have hcz25_1 : wc.cell? ⟨gb238, 1, none⟩ = some (.int .u8 x239001_1) := (blk_cell BK238.out 1).trans rfl
                  have hcz25_2 : wc.cell? ⟨gb238, 2, none⟩ = some (.int .u8 x239002_1) := (blk_cell BK238.out 2).trans rfl
                  have hcz25_3 : wc.cell? ⟨gb238, 3, none⟩ = some (.int .u8 x239003_1) := (blk_cell BK238.out 3).trans rfl
                  have hcz25_4 : wc.cell? ⟨gb238, 4, none⟩ = some (.int .u8 x239004_1) := (blk_cell BK238.out 4).trans rfl
                  have hfz25_0 := blk_frozen BK238.out 0
                  have hfz25_1 := blk_frozen BK238.out 1
                  have hfz25_2 := blk_frozen BK238.out 2
                  have hfz25_3 := blk_frozen BK238.out 3
                  have hfz25_4 := blk_frozen BK238.out 4
                  go_wp2_with (first | (go_at_call 18; (with_reducible refine (timer_Read.calls x239000_1 x239001_1 x239002_1 x239003_1 x239004_1 65285 t245 _ A24.out).mono ?_); rintro e w26 ⟨rfl, hb⟩; have n0_ := Aside0.mk (blk_below (g := gb238) (o := .cells #[.int .u16 x239000_1, .int .u8 x239001_1, .int .u8 x239002_1, .int .u8 x239003_1, .int .u8 x239004_1] 24 (0, 0)) (by (with_reducible repeat (first | refine blk_drewN ?_ _ | refine blk_drew ?_ | refine blk_alloc ?_ _)); exact BK238.out) hb); have n1_ := Aside0.mk (below_step (by repeat (first | (with_reducible first | exact HB.out | apply below_alloc | apply pw_below_drewN | apply below_drew1 | refine below_set ?_ GE238.out) | exact HB.out)) hb); clear BK238; clear HB; have BK238 := n0_; have HB := n1_; clear n0_ n1_; (try clear hb); (try clear hb2); (try clear hk); (try clear hi)))
                  go_meet
                  case rel => exact ⟨_, ((t245 != 0)), (by first | rfl | (simp; done) | (simp [*]; done)), H', ⟨by have := HK1.out; have := HJ7.out; first | omega | exact Nat.le_refl _⟩, ⟨by (with_reducible repeat (first | refine blk_drewN ?_ _ | refine blk_drew ?_ | refine blk_alloc ?_ _)); exact BK238.out⟩, ⟨by repeat (first | (with_reducible first | exact HB.out | apply below_alloc | apply pw_below_drewN | apply below_drew1 | refine below_set ?_ GE238.out) | exact HB.out)⟩⟩
                · rw [if_neg c23] at H
                  have c23b0 : (x239001_1 == 0) = false := beq_eq_false_iff_ne.mpr c23
                  have c23b1 : (x239001_1 != 0) = true := bne_iff_ne.mpr c23
                  have H' := Aside0.mk H
                  clear H
                  have hcz27_0 : wc.cell? ⟨gb238, 0, none⟩ = some (.int .u16 x239000_1) := (blk_cell BK238.out 0).trans rfl
                  have hcz27_1 : wc.cell? ⟨gb238, 1, none⟩ = some (.int .u8 x239001_1) := (blk_cell BK238.out 1).trans rfl
                  have hcz27_2 : wc.cell? ⟨gb238, 2, none⟩ = some (.int .u8 x239002_1) := (blk_cell BK238.out 2).trans rfl
                  have hcz27_3 : wc.cell? ⟨gb238, 3, none⟩ = some (.int .u8 x239003_1) := (blk_cell BK238.out 3).trans rfl
                  have hcz27_4 : wc.cell? ⟨gb238, 4, none⟩ = some (.int .u8 x239004_1) := (blk_cell BK238.out 4).trans rfl
                  have hfz27_0 := blk_frozen BK238.out 0
                  have hfz27_1 := blk_frozen BK238.out 1
                  have hfz27_2 := blk_frozen BK238.out 2
                  have hfz27_3 := blk_frozen BK238.out 3
                  have hfz27_4 := blk_frozen BK238.out 4
                  go_wp2
                  go_meet
                  case rel => exact ⟨_, (true), (by first | rfl | (simp; done) | (simp [*]; done)), H', ⟨by have := HK1.out; have := HJ7.out; first | omega | exact Nat.le_refl _⟩, ⟨by (with_reducible repeat (first | refine blk_drewN ?_ _ | refine blk_drew ?_ | refine blk_alloc ?_ _)); exact BK238.out⟩, ⟨by repeat (first | (with_reducible first | exact HB.out | apply below_alloc | apply pw_below_drewN | apply below_drew1 | refine below_set ?_ GE238.out) | exact HB.out)⟩⟩
            case rest =>
              clear HC21
              try clear c1
              try clear c2
              try clear p2
              try clear p6
              try clear c9
              try clear c9b0
              try clear c9b1
              try clear c10
              try clear c12
              try clear c13
              try clear c14
              try clear c22
              try clear c22b0
              try clear c23
              try clear c23b0
              try clear c23b1
              try clear hcz10_0
              try clear hcz10_1
              try clear hcz10_2
              try clear hcz10_3
              try clear hcz10_4
              try clear hcz11_0
              try clear hcz11_1
              try clear hcz11_2
              try clear hcz11_3
              try clear hcz11_4
              try clear hcz15_0
              try clear hcz15_1
              try clear hcz15_2
              try clear hcz15_3
              try clear hcz15_4
              try clear hcz17_0
              try clear hcz17_1
              try clear hcz17_2
              try clear hcz17_3
              try clear hcz17_4
              try clear hcz18_0
              try clear hcz18_1
              try clear hcz18_2
              try clear hcz18_3
              try clear hcz18_4
              try clear hcz20_0
              try clear hcz20_1
              try clear hcz20_2
              try clear hcz20_3
              try clear hcz20_4
              try clear hcz25_0
              try clear hcz25_1
              try clear hcz25_2
              try clear hcz25_3
              try clear hcz25_4
              try clear hcz27_0
              try clear hcz27_1
              try clear hcz27_2
              try clear hcz27_3
              try clear hcz27_4
              try clear hcz7_0
              try clear hcz7_1
              try clear hcz7_2
              try clear hcz7_3
              try clear hcz7_4
              try clear hfz10_0
              try clear hfz10_1
              try clear hfz10_2
              try clear hfz10_3
              try clear hfz10_4
              try clear hfz11_0
              try clear hfz11_1
              try clear hfz11_2
              try clear hfz11_3
              try clear hfz11_4
              try clear hfz15_0
              try clear hfz15_1
              try clear hfz15_2
              try clear hfz15_3
              try clear hfz15_4
              try clear hfz17_0
              try clear hfz17_1
              try clear hfz17_2
              try clear hfz17_3
              try clear hfz17_4
              try clear hfz18_0
              try clear hfz18_1
              try clear hfz18_2
              try clear hfz18_3
              try clear hfz18_4
              try clear hfz20_0
              try clear hfz20_1
              try clear hfz20_2
              try clear hfz20_3
              try clear hfz20_4
              try clear hfz25_0
              try clear hfz25_1
              try clear hfz25_2
              try clear hfz25_3
              try clear hfz25_4
              try clear hfz27_0
              try clear hfz27_1
              try clear hfz27_2
              try clear hfz27_3
              try clear hfz27_4
              try clear hfz7_0
              try clear hfz7_1
              try clear hfz7_2
              try clear hfz7_3
              try clear hfz7_4
              try clear p2
              obtain ⟨kq, x49_20, rfl, HA, HJ20, BK238, HB⟩ := hcut
              cases kq with
              | zero => exact absurd HA.out (by simp [whirligiglaw11_TimerLoads.j2])
              | succ kj20 =>
                have H := HA.out
                clear HA
                simp only [whirligiglaw11_TimerLoads.j2] at H
                by_cases c28 : x49_20 = true
                · subst c28
                  have H1 : (some false) = some r := by rw [if_pos rfl] at H; exact H
                  clear H
                  have H := H1
                  clear H1
                  exact absurd ((Option.some.inj H).trans HT.out) (by simp)
                · replace c28 := Bool.eq_false_iff.mpr c28
                  subst c28
                  have H1 : ((timer_Step.f kj20 x239000_1 x239001_1 x239002_1 x239003_1 x239004_1).bind fun bt246 => ((timer_Write.f kj20 bt246.1 bt246.2.1 bt246.2.2.1 bt246.2.2.2.1 bt246.2.2.2.2.1 65285 a2).bind fun bt253 => ((timer_Write.f kj20 bt246.1 bt246.2.1 bt246.2.2.1 bt246.2.2.2.1 bt246.2.2.2.2.1 65286 a2).bind fun bt259 => ((timer_Write.f kj20 x239000_1 x239001_1 x239002_1 x239003_1 x239004_1 65285 a2).bind fun bt265 => ((timer_Step.f kj20 bt265.1 bt265.2.1 bt265.2.2.1 bt265.2.2.2.1 bt265.2.2.2.2).bind fun bt270 => ((timer_Step.f kj20 bt246.1 bt246.2.1 bt246.2.2.1 bt246.2.2.2.1 bt246.2.2.2.2.1).bind fun bt277 => (if t237 = true then (if bt246.2.2.2.2.2 = true then (if bt246.2.1 = a1 then (if (bt253.1 == bt246.1 && (bt253.2.1 == bt246.2.1 && (bt253.2.2.1 == bt246.2.2.1 && (bt253.2.2.2.1 == bt246.2.2.2.1 && (bt253.2.2.2.2 == bt246.2.2.2.2.1))))) = true then (if bt259.2.1 = a2 then (if bt259.2.2.1 = a2 then (if bt270.2.2.2.2.2 = true then (some false) else (if bt270.2.1 = a2 then (if bt270.2.2.2.2.1 = 0 then (some (!bt277.2.2.2.2.2)) else (some false)) else (some false))) else (some false)) else (some false)) else (some false)) else (some false)) else (some false)) else (some false)))))))) = some r := by rw [if_neg (show ¬ (false = true) by decide)] at H; exact H
                  clear H
                  have H := H1
                  clear H1
                  replace H := Option.bind_eq_some_iff.mp H
                  obtain ⟨⟨t246, t247, t248, t249, t250, t251⟩, A290, H⟩ := H
                  replace H : ((timer_Write.f kj20 t246 t247 t248 t249 t250 65285 a2).bind fun bt253 => ((timer_Write.f kj20 t246 t247 t248 t249 t250 65286 a2).bind fun bt259 => ((timer_Write.f kj20 x239000_1 x239001_1 x239002_1 x239003_1 x239004_1 65285 a2).bind fun bt265 => ((timer_Step.f kj20 bt265.1 bt265.2.1 bt265.2.2.1 bt265.2.2.2.1 bt265.2.2.2.2).bind fun bt270 => ((timer_Step.f kj20 t246 t247 t248 t249 t250).bind fun bt277 => (if t237 = true then (if t251 = true then (if t247 = a1 then (if (bt253.1 == t246 && (bt253.2.1 == t247 && (bt253.2.2.1 == t248 && (bt253.2.2.2.1 == t249 && (bt253.2.2.2.2 == t250))))) = true then (if bt259.2.1 = a2 then (if bt259.2.2.1 = a2 then (if bt270.2.2.2.2.2 = true then (some false) else (if bt270.2.1 = a2 then (if bt270.2.2.2.2.1 = 0 then (some (!bt277.2.2.2.2.2)) else (some false)) else (some false))) else (some false)) else (some false)) else (some false)) else (some false)) else (some false)) else (some false))))))) = some r := H
                  have A29 := Aside0.mk A290
                  clear A290
                  replace H := Option.bind_eq_some_iff.mp H
                  obtain ⟨⟨t253, t254, t255, t256, t257⟩, A300, H⟩ := H
                  replace H : ((timer_Write.f kj20 t246 t247 t248 t249 t250 65286 a2).bind fun bt259 => ((timer_Write.f kj20 x239000_1 x239001_1 x239002_1 x239003_1 x239004_1 65285 a2).bind fun bt265 => ((timer_Step.f kj20 bt265.1 bt265.2.1 bt265.2.2.1 bt265.2.2.2.1 bt265.2.2.2.2).bind fun bt270 => ((timer_Step.f kj20 t246 t247 t248 t249 t250).bind fun bt277 => (if t237 = true then (if t251 = true then (if t247 = a1 then (if (t253 == t246 && (t254 == t247 && (t255 == t248 && (t256 == t249 && (t257 == t250))))) = true then (if bt259.2.1 = a2 then (if bt259.2.2.1 = a2 then (if bt270.2.2.2.2.2 = true then (some false) else (if bt270.2.1 = a2 then (if bt270.2.2.2.2.1 = 0 then (some (!bt277.2.2.2.2.2)) else (some false)) else (some false))) else (some false)) else (some false)) else (some false)) else (some false)) else (some false)) else (some false)))))) = some r := H
                  have A30 := Aside0.mk A300
                  clear A300
                  replace H := Option.bind_eq_some_iff.mp H
                  obtain ⟨⟨t259, t260, t261, t262, t263⟩, A310, H⟩ := H
                  replace H : ((timer_Write.f kj20 x239000_1 x239001_1 x239002_1 x239003_1 x239004_1 65285 a2).bind fun bt265 => ((timer_Step.f kj20 bt265.1 bt265.2.1 bt265.2.2.1 bt265.2.2.2.1 bt265.2.2.2.2).bind fun bt270 => ((timer_Step.f kj20 t246 t247 t248 t249 t250).bind fun bt277 => (if t237 = true then (if t251 = true then (if t247 = a1 then (if (t253 == t246 && (t254 == t247 && (t255 == t248 && (t256 == t249 && (t257 == t250))))) = true then (if t260 = a2 then (if t261 = a2 then (if bt270.2.2.2.2.2 = true then (some false) else (if bt270.2.1 = a2 then (if bt270.2.2.2.2.1 = 0 then (some (!bt277.2.2.2.2.2)) else (some false)) else (some false))) else (some false)) else (some false)) else (some false)) else (some false)) else (some false)) else (some false))))) = some r := H
                  have A31 := Aside0.mk A310
                  clear A310
                  replace H := Option.bind_eq_some_iff.mp H
                  obtain ⟨⟨t265, t266, t267, t268, t269⟩, A320, H⟩ := H
                  replace H : ((timer_Step.f kj20 t265 t266 t267 t268 t269).bind fun bt270 => ((timer_Step.f kj20 t246 t247 t248 t249 t250).bind fun bt277 => (if t237 = true then (if t251 = true then (if t247 = a1 then (if (t253 == t246 && (t254 == t247 && (t255 == t248 && (t256 == t249 && (t257 == t250))))) = true then (if t260 = a2 then (if t261 = a2 then (if bt270.2.2.2.2.2 = true then (some false) else (if bt270.2.1 = a2 then (if bt270.2.2.2.2.1 = 0 then (some (!bt277.2.2.2.2.2)) else (some false)) else (some false))) else (some false)) else (some false)) else (some false)) else (some false)) else (some false)) else (some false)))) = some r := H
                  have A32 := Aside0.mk A320
                  clear A320
                  replace H := Option.bind_eq_some_iff.mp H
                  obtain ⟨⟨t270, t271, t272, t273, t274, t275⟩, A330, H⟩ := H
                  replace H : ((timer_Step.f kj20 t246 t247 t248 t249 t250).bind fun bt277 => (if t237 = true then (if t251 = true then (if t247 = a1 then (if (t253 == t246 && (t254 == t247 && (t255 == t248 && (t256 == t249 && (t257 == t250))))) = true then (if t260 = a2 then (if t261 = a2 then (if t275 = true then (some false) else (if t271 = a2 then (if t274 = 0 then (some (!bt277.2.2.2.2.2)) else (some false)) else (some false))) else (some false)) else (some false)) else (some false)) else (some false)) else (some false)) else (some false))) = some r := H
                  have A33 := Aside0.mk A330
                  clear A330
                  replace H := Option.bind_eq_some_iff.mp H
                  obtain ⟨⟨t277, t278, t279, t280, t281, t282⟩, A340, H⟩ := H
                  replace H : (if t237 = true then (if t251 = true then (if t247 = a1 then (if (t253 == t246 && (t254 == t247 && (t255 == t248 && (t256 == t249 && (t257 == t250))))) = true then (if t260 = a2 then (if t261 = a2 then (if t275 = true then (some false) else (if t271 = a2 then (if t274 = 0 then (some (!t282)) else (some false)) else (some false))) else (some false)) else (some false)) else (some false)) else (some false)) else (some false)) else (some false)) = some r := H
                  have A34 := Aside0.mk A340
                  clear A340
                  by_cases c35 : t237 = true
                  · subst c35
                    have H1 : (if t251 = true then (if t247 = a1 then (if (t253 == t246 && (t254 == t247 && (t255 == t248 && (t256 == t249 && (t257 == t250))))) = true then (if t260 = a2 then (if t261 = a2 then (if t275 = true then (some false) else (if t271 = a2 then (if t274 = 0 then (some (!t282)) else (some false)) else (some false))) else (some false)) else (some false)) else (some false)) else (some false)) else (some false)) = some r := by rw [if_pos rfl] at H; exact H
                    clear H
                    have H := H1
                    clear H1
                    by_cases c36 : t251 = true
                    · subst c36
                      have H1 : (if t247 = a1 then (if (t253 == t246 && (t254 == t247 && (t255 == t248 && (t256 == t249 && (t257 == t250))))) = true then (if t260 = a2 then (if t261 = a2 then (if t275 = true then (some false) else (if t271 = a2 then (if t274 = 0 then (some (!t282)) else (some false)) else (some false))) else (some false)) else (some false)) else (some false)) else (some false)) = some r := by rw [if_pos rfl] at H; exact H
                      clear H
                      have H := H1
                      clear H1
                      by_cases c37 : t247 = a1
                      · rw [if_pos c37] at H
                        have c37b0 : (t247 == a1) = true := beq_iff_eq.mpr c37
                        have c37b1 : (t247 != a1) = false := bne_eq_false_iff_eq.mpr c37
                        clear c37
                        by_cases c38 : (t253 == t246 && (t254 == t247 && (t255 == t248 && (t256 == t249 && (t257 == t250))))) = true
                        · rw [if_pos c38] at H
                          have c38b0 : (t253 == t246 && (t254 == t247 && (t255 == t248 && (t256 == t249 && (t257 == t250))))) = true := c38
                          (try (have c38b1 : decide (t253 = t246 && (t254 == t247 && (t255 == t248 && (t256 == t249 && (t257 == t250))))) = true := by simpa using c38))
                          (try (have c38b2 : (t253 == t246 && (t254 == t247 && (t255 == t248 && (t256 == t249 && (t257 == t250))))) = true := by simpa using c38))
                          clear c38
                          by_cases c39 : t260 = a2
                          · rw [if_pos c39] at H
                            have c39b0 : (t260 == a2) = true := beq_iff_eq.mpr c39
                            have c39b1 : (t260 != a2) = false := bne_eq_false_iff_eq.mpr c39
                            clear c39
                            by_cases c40 : t261 = a2
                            · rw [if_pos c40] at H
                              have c40b0 : (t261 == a2) = true := beq_iff_eq.mpr c40
                              have c40b1 : (t261 != a2) = false := bne_eq_false_iff_eq.mpr c40
                              clear c40
                              by_cases c41 : t275 = true
                              · subst c41
                                have H1 : (some false) = some r := by rw [if_pos rfl] at H; exact H
                                clear H
                                have H := H1
                                clear H1
                                exact absurd ((Option.some.inj H).trans HT.out) (by simp)
                              · replace c41 := Bool.eq_false_iff.mpr c41
                                subst c41
                                have H1 : (if t271 = a2 then (if t274 = 0 then (some (!t282)) else (some false)) else (some false)) = some r := by rw [if_neg (show ¬ (false = true) by decide)] at H; exact H
                                clear H
                                have H := H1
                                clear H1
                                by_cases c80 : t271 = a2
                                · rw [if_pos c80] at H
                                  have c80b0 : (t271 == a2) = true := beq_iff_eq.mpr c80
                                  have c80b1 : (t271 != a2) = false := bne_eq_false_iff_eq.mpr c80
                                  clear c80
                                  by_cases c81 : t274 = 0
                                  · rw [if_pos c81] at H
                                    have c81b0 : (t274 == 0) = true := beq_iff_eq.mpr c81
                                    have c81b1 : (t274 != 0) = false := bne_eq_false_iff_eq.mpr c81
                                    clear c81
                                    obtain rfl := Option.some.inj H
                                    have hcz82_0 : wc.cell? ⟨gb238, 0, none⟩ = some (.int .u16 x239000_1) := (blk_cell BK238.out 0).trans rfl
                                    have hcz82_1 : wc.cell? ⟨gb238, 1, none⟩ = some (.int .u8 x239001_1) := (blk_cell BK238.out 1).trans rfl
                                    have hcz82_2 : wc.cell? ⟨gb238, 2, none⟩ = some (.int .u8 x239002_1) := (blk_cell BK238.out 2).trans rfl
                                    have hcz82_3 : wc.cell? ⟨gb238, 3, none⟩ = some (.int .u8 x239003_1) := (blk_cell BK238.out 3).trans rfl
                                    have hcz82_4 : wc.cell? ⟨gb238, 4, none⟩ = some (.int .u8 x239004_1) := (blk_cell BK238.out 4).trans rfl
                                    have hfz82_0 := blk_frozen BK238.out 0
                                    have hfz82_1 := blk_frozen BK238.out 1
                                    have hfz82_2 := blk_frozen BK238.out 2
                                    have hfz82_3 := blk_frozen BK238.out 3
                                    have hfz82_4 := blk_frozen BK238.out 4
                                    go_wp2_with (first | ((with_reducible refine gate_callee (f := 13) rfl ?_); refine goesL_ (some 52) rfl rfl Try.func13 (by kernel_rfl) rfl #[.agg #[.int .u16 x239000_1, .int .u8 x239001_1, .int .u8 x239002_1, .int .u8 x239003_1, .int .u8 x239004_1]] rfl (by (try simp only [List.map_toArray, List.map_cons, List.map_nil]); first | done | rfl | (simp only [List.length_drop, List.length_take]; rfl)) ?_; (with_reducible refine (timer_Step.calls kj20 x239000_1 x239001_1 x239002_1 x239003_1 x239004_1 t246 t247 t248 t249 t250 true _ A29.out).mono ?_); rintro e w83 ⟨rfl, hb⟩; refine ⟨_, rfl, ?_⟩; have n0_ := Aside0.mk (blk_below (g := gb238) (o := .cells #[.int .u16 x239000_1, .int .u8 x239001_1, .int .u8 x239002_1, .int .u8 x239003_1, .int .u8 x239004_1] 24 (0, 0)) (by (with_reducible repeat (first | refine blk_drewN ?_ _ | refine blk_drew ?_ | refine blk_alloc ?_ _)); exact BK238.out) hb); have n1_ := Aside0.mk (below_step (by repeat (first | (with_reducible first | exact HB.out | apply below_alloc | apply pw_below_drewN | apply below_drew1 | refine below_set ?_ GE238.out) | exact HB.out)) hb); clear BK238; clear HB; have BK238 := n0_; have HB := n1_; clear n0_ n1_; (try clear hb); (try clear hb2); (try clear hk); (try clear hi)) | ((with_reducible refine gate_dst (N := 11) rfl ?_); refine box_event ?hg (N := 11) ?hd (cs := #[.int .u16 0, .int .u8 0, .int .u8 0, .int .u8 0, .int .u8 0]) (t := 24) ?hr ?_; (case hd => rfl); (case hg => rfl); (case hr => first | (go_simp; done) | (go_simp; rfl)); intro gb252 hg w84 hbox hb; have n0_ := Aside0.mk (blk_below (g := gb238) (o := .cells #[.int .u16 x239000_1, .int .u8 x239001_1, .int .u8 x239002_1, .int .u8 x239003_1, .int .u8 x239004_1] 24 (0, 0)) (by (with_reducible repeat (first | refine blk_drewN ?_ _ | refine blk_drew ?_ | refine blk_alloc ?_ _)); exact BK238.out) hb); have n1_ := Aside0.mk (below_step (by repeat (first | (with_reducible first | exact HB.out | apply below_alloc | apply pw_below_drewN | apply below_drew1 | refine below_set ?_ GE238.out) | exact HB.out)) hb); have n2_ := Aside0.mk (hbox); have n3_ := Aside0.mk ((by rw [hg]; exact (below_size (by repeat (first | (with_reducible first | exact HB.out | apply below_alloc | apply pw_below_drewN | apply below_drew1 | refine below_set ?_ GE238.out) | exact HB.out))) : w.heap.size ≤ gb252)); have n4_ := Aside0.mk ((by rw [hg]; exact (below_size (by repeat (first | (with_reducible first | exact HB.out | apply below_alloc | apply pw_below_drewN | apply below_drew1 | refine below_set ?_ GE238.out) | exact HB.out))) : w.heap.size ≤ gb252)); have n5_ := Aside0.mk ((by rw [hg]; exact Nat.ne_of_lt (blk_lt (g := gb238) (o := .cells #[.int .u16 x239000_1, .int .u8 x239001_1, .int .u8 x239002_1, .int .u8 x239003_1, .int .u8 x239004_1] 24 (0, 0)) (by (with_reducible repeat (first | refine blk_drewN ?_ _ | refine blk_drew ?_ | refine blk_alloc ?_ _)); exact BK238.out)) : gb238 ≠ gb252)); have n6_ := Aside0.mk ((by rw [hg]; exact Nat.ne_of_gt (blk_lt (g := gb238) (o := .cells #[.int .u16 x239000_1, .int .u8 x239001_1, .int .u8 x239002_1, .int .u8 x239003_1, .int .u8 x239004_1] 24 (0, 0)) (by (with_reducible repeat (first | refine blk_drewN ?_ _ | refine blk_drew ?_ | refine blk_alloc ?_ _)); exact BK238.out)) : gb252 ≠ gb238)); clear BK238; clear HB; have BK238 := n0_; have HB := n1_; have BK252 := n2_; have GW252 := n3_; have GE252 := n4_; have NB238_252 := n5_; have NB252_238 := n6_; clear n0_ n1_ n2_ n3_ n4_ n5_ n6_; clear hb hbox hg; have hnb85 := NB252_238.out; have hnc85 := NB238_252.out; have hcz86_0 : w84.cell? ⟨gb252, 0, none⟩ = some (.int .u16 0) := (blk_cell BK252.out 0).trans rfl; have hcz86_1 : w84.cell? ⟨gb252, 1, none⟩ = some (.int .u8 0) := (blk_cell BK252.out 1).trans rfl; have hcz86_2 : w84.cell? ⟨gb252, 2, none⟩ = some (.int .u8 0) := (blk_cell BK252.out 2).trans rfl; have hcz86_3 : w84.cell? ⟨gb252, 3, none⟩ = some (.int .u8 0) := (blk_cell BK252.out 3).trans rfl; have hcz86_4 : w84.cell? ⟨gb252, 4, none⟩ = some (.int .u8 0) := (blk_cell BK252.out 4).trans rfl; have hfz86_0 := blk_frozen BK252.out 0; have hfz86_1 := blk_frozen BK252.out 1; have hfz86_2 := blk_frozen BK252.out 2; have hfz86_3 := blk_frozen BK252.out 3; have hfz86_4 := blk_frozen BK252.out 4) | ((with_reducible refine gate_callee (f := 15) rfl ?_); refine goesL_ (some 57) rfl rfl Try.func15 (by kernel_rfl) rfl #[.agg #[.int .u16 t246, .int .u8 t247, .int .u8 t248, .int .u8 t249, .int .u8 t250], .int .u16 65285, .int .u8 a2] rfl (by (try simp only [List.map_toArray, List.map_cons, List.map_nil]); first | done | rfl | (simp only [List.length_drop, List.length_take]; rfl)) ?_; (with_reducible refine (timer_Write.calls kj20 t246 t247 t248 t249 t250 65285 a2 t253 t254 t255 t256 t257 _ A30.out).mono ?_); rintro e w87 ⟨rfl, hb⟩; refine ⟨_, rfl, ?_⟩; have n0_ := Aside0.mk (blk_below (g := gb238) (o := .cells #[.int .u16 x239000_1, .int .u8 x239001_1, .int .u8 x239002_1, .int .u8 x239003_1, .int .u8 x239004_1] 24 (0, 0)) (by (with_reducible repeat (first | refine blk_drewN ?_ _ | refine blk_drew ?_ | refine blk_alloc ?_ _)); refine blk_far ?_ NB238_252.out _; (with_reducible repeat (first | refine blk_drewN ?_ _ | refine blk_drew ?_ | refine blk_alloc ?_ _)); refine blk_far ?_ NB238_252.out _; (with_reducible repeat (first | refine blk_drewN ?_ _ | refine blk_drew ?_ | refine blk_alloc ?_ _)); refine blk_far ?_ NB238_252.out _; (with_reducible repeat (first | refine blk_drewN ?_ _ | refine blk_drew ?_ | refine blk_alloc ?_ _)); refine blk_far ?_ NB238_252.out _; (with_reducible repeat (first | refine blk_drewN ?_ _ | refine blk_drew ?_ | refine blk_alloc ?_ _)); refine blk_far ?_ NB238_252.out _; (with_reducible repeat (first | refine blk_drewN ?_ _ | refine blk_drew ?_ | refine blk_alloc ?_ _)); exact BK238.out) hb); have n1_ := Aside0.mk (blk_below (g := gb252) (o := .cells #[.int .u16 t246, .int .u8 t247, .int .u8 t248, .int .u8 t249, .int .u8 t250] 24 (0, 0)) (by (with_reducible repeat (first | refine blk_drewN ?_ _ | refine blk_drew ?_ | refine blk_alloc ?_ _)); refine blk_put (cs := #[.int .u16 t246, .int .u8 t247, .int .u8 t248, .int .u8 t249, .int .u8 0]) ?_ 4 _ rfl; (with_reducible repeat (first | refine blk_drewN ?_ _ | refine blk_drew ?_ | refine blk_alloc ?_ _)); refine blk_put (cs := #[.int .u16 t246, .int .u8 t247, .int .u8 t248, .int .u8 0, .int .u8 0]) ?_ 3 _ rfl; (with_reducible repeat (first | refine blk_drewN ?_ _ | refine blk_drew ?_ | refine blk_alloc ?_ _)); refine blk_put (cs := #[.int .u16 t246, .int .u8 t247, .int .u8 0, .int .u8 0, .int .u8 0]) ?_ 2 _ rfl; (with_reducible repeat (first | refine blk_drewN ?_ _ | refine blk_drew ?_ | refine blk_alloc ?_ _)); refine blk_put (cs := #[.int .u16 t246, .int .u8 0, .int .u8 0, .int .u8 0, .int .u8 0]) ?_ 1 _ rfl; (with_reducible repeat (first | refine blk_drewN ?_ _ | refine blk_drew ?_ | refine blk_alloc ?_ _)); refine blk_put (cs := #[.int .u16 0, .int .u8 0, .int .u8 0, .int .u8 0, .int .u8 0]) ?_ 0 _ rfl; (with_reducible repeat (first | refine blk_drewN ?_ _ | refine blk_drew ?_ | refine blk_alloc ?_ _)); exact BK252.out) hb); have n2_ := Aside0.mk (below_step (by repeat (first | (with_reducible first | exact HB.out | apply below_alloc | apply pw_below_drewN | apply below_drew1 | refine below_set ?_ GE238.out | refine below_set ?_ GE252.out) | exact HB.out)) hb); clear BK238; clear BK252; clear HB; have BK238 := n0_; have BK252 := n1_; have HB := n2_; clear n0_ n1_ n2_; (try clear hb); (try clear hb2); (try clear hk); (try clear hi)) | ((with_reducible refine gate_dst (N := 13) rfl ?_); refine box_event ?hg (N := 13) ?hd (cs := #[.int .u16 0, .int .u8 0, .int .u8 0, .int .u8 0, .int .u8 0]) (t := 24) ?hr ?_; (case hd => rfl); (case hg => rfl); (case hr => first | (go_simp; done) | (go_simp; rfl)); intro gb258 hg w88 hbox hb; have n0_ := Aside0.mk (blk_below (g := gb238) (o := .cells #[.int .u16 x239000_1, .int .u8 x239001_1, .int .u8 x239002_1, .int .u8 x239003_1, .int .u8 x239004_1] 24 (0, 0)) (by (with_reducible repeat (first | refine blk_drewN ?_ _ | refine blk_drew ?_ | refine blk_alloc ?_ _)); exact BK238.out) hb); have n1_ := Aside0.mk (blk_below (g := gb252) (o := .cells #[.int .u16 t246, .int .u8 t247, .int .u8 t248, .int .u8 t249, .int .u8 t250] 24 (0, 0)) (by (with_reducible repeat (first | refine blk_drewN ?_ _ | refine blk_drew ?_ | refine blk_alloc ?_ _)); exact BK252.out) hb); have n2_ := Aside0.mk (below_step (by repeat (first | (with_reducible first | exact HB.out | apply below_alloc | apply pw_below_drewN | apply below_drew1 | refine below_set ?_ GE238.out | refine below_set ?_ GE252.out) | exact HB.out)) hb); have n3_ := Aside0.mk (hbox); have n4_ := Aside0.mk ((by rw [hg]; exact (below_size (by repeat (first | (with_reducible first | exact HB.out | apply below_alloc | apply pw_below_drewN | apply below_drew1 | refine below_set ?_ GE238.out | refine below_set ?_ GE252.out) | exact HB.out))) : w.heap.size ≤ gb258)); have n5_ := Aside0.mk ((by rw [hg]; exact (below_size (by repeat (first | (with_reducible first | exact HB.out | apply below_alloc | apply pw_below_drewN | apply below_drew1 | refine below_set ?_ GE238.out | refine below_set ?_ GE252.out) | exact HB.out))) : w.heap.size ≤ gb258)); have n6_ := Aside0.mk ((by rw [hg]; exact Nat.ne_of_lt (blk_lt (g := gb238) (o := .cells #[.int .u16 x239000_1, .int .u8 x239001_1, .int .u8 x239002_1, .int .u8 x239003_1, .int .u8 x239004_1] 24 (0, 0)) (by (with_reducible repeat (first | refine blk_drewN ?_ _ | refine blk_drew ?_ | refine blk_alloc ?_ _)); exact BK238.out)) : gb238 ≠ gb258)); have n7_ := Aside0.mk ((by rw [hg]; exact Nat.ne_of_gt (blk_lt (g := gb238) (o := .cells #[.int .u16 x239000_1, .int .u8 x239001_1, .int .u8 x239002_1, .int .u8 x239003_1, .int .u8 x239004_1] 24 (0, 0)) (by (with_reducible repeat (first | refine blk_drewN ?_ _ | refine blk_drew ?_ | refine blk_alloc ?_ _)); exact BK238.out)) : gb258 ≠ gb238)); have n8_ := Aside0.mk ((by rw [hg]; exact Nat.ne_of_lt (blk_lt (g := gb252) (o := .cells #[.int .u16 t246, .int .u8 t247, .int .u8 t248, .int .u8 t249, .int .u8 t250] 24 (0, 0)) (by (with_reducible repeat (first | refine blk_drewN ?_ _ | refine blk_drew ?_ | refine blk_alloc ?_ _)); exact BK252.out)) : gb252 ≠ gb258)); have n9_ := Aside0.mk ((by rw [hg]; exact Nat.ne_of_gt (blk_lt (g := gb252) (o := .cells #[.int .u16 t246, .int .u8 t247, .int .u8 t248, .int .u8 t249, .int .u8 t250] 24 (0, 0)) (by (with_reducible repeat (first | refine blk_drewN ?_ _ | refine blk_drew ?_ | refine blk_alloc ?_ _)); exact BK252.out)) : gb258 ≠ gb252)); clear BK238; clear BK252; clear HB; have BK238 := n0_; have BK252 := n1_; have HB := n2_; have BK258 := n3_; have GW258 := n4_; have GE258 := n5_; have NB238_258 := n6_; have NB258_238 := n7_; have NB252_258 := n8_; have NB258_252 := n9_; clear n0_ n1_ n2_ n3_ n4_ n5_ n6_ n7_ n8_ n9_; clear hb hbox hg; have hnb89 := NB258_238.out; have hnc89 := NB238_258.out; have hnb90 := NB258_252.out; have hnc90 := NB252_258.out; have hcz91_0 : w88.cell? ⟨gb258, 0, none⟩ = some (.int .u16 0) := (blk_cell BK258.out 0).trans rfl; have hcz91_1 : w88.cell? ⟨gb258, 1, none⟩ = some (.int .u8 0) := (blk_cell BK258.out 1).trans rfl; have hcz91_2 : w88.cell? ⟨gb258, 2, none⟩ = some (.int .u8 0) := (blk_cell BK258.out 2).trans rfl; have hcz91_3 : w88.cell? ⟨gb258, 3, none⟩ = some (.int .u8 0) := (blk_cell BK258.out 3).trans rfl; have hcz91_4 : w88.cell? ⟨gb258, 4, none⟩ = some (.int .u8 0) := (blk_cell BK258.out 4).trans rfl; have hfz91_0 := blk_frozen BK258.out 0; have hfz91_1 := blk_frozen BK258.out 1; have hfz91_2 := blk_frozen BK258.out 2; have hfz91_3 := blk_frozen BK258.out 3; have hfz91_4 := blk_frozen BK258.out 4; have hcz92_0 : w88.cell? ⟨gb252, 0, none⟩ = some (.int .u16 t246) := (blk_cell BK252.out 0).trans rfl; have hcz92_1 : w88.cell? ⟨gb252, 1, none⟩ = some (.int .u8 t247) := (blk_cell BK252.out 1).trans rfl; have hcz92_2 : w88.cell? ⟨gb252, 2, none⟩ = some (.int .u8 t248) := (blk_cell BK252.out 2).trans rfl; have hcz92_3 : w88.cell? ⟨gb252, 3, none⟩ = some (.int .u8 t249) := (blk_cell BK252.out 3).trans rfl; have hcz92_4 : w88.cell? ⟨gb252, 4, none⟩ = some (.int .u8 t250) := (blk_cell BK252.out 4).trans rfl; have hfz92_0 := blk_frozen BK252.out 0; have hfz92_1 := blk_frozen BK252.out 1; have hfz92_2 := blk_frozen BK252.out 2; have hfz92_3 := blk_frozen BK252.out 3; have hfz92_4 := blk_frozen BK252.out 4) | ((with_reducible refine gate_callee (f := 15) rfl ?_); refine goesL_ (some 60) rfl rfl Try.func15 (by kernel_rfl) rfl #[.agg #[.int .u16 t246, .int .u8 t247, .int .u8 t248, .int .u8 t249, .int .u8 t250], .int .u16 65286, .int .u8 a2] rfl (by (try simp only [List.map_toArray, List.map_cons, List.map_nil]); first | done | rfl | (simp only [List.length_drop, List.length_take]; rfl)) ?_; (with_reducible refine (timer_Write.calls kj20 t246 t247 t248 t249 t250 65286 a2 t259 t260 t261 t262 t263 _ A31.out).mono ?_); rintro e w93 ⟨rfl, hb⟩; refine ⟨_, rfl, ?_⟩; have n0_ := Aside0.mk (blk_below (g := gb238) (o := .cells #[.int .u16 x239000_1, .int .u8 x239001_1, .int .u8 x239002_1, .int .u8 x239003_1, .int .u8 x239004_1] 24 (0, 0)) (by (with_reducible repeat (first | refine blk_drewN ?_ _ | refine blk_drew ?_ | refine blk_alloc ?_ _)); refine blk_far ?_ NB238_258.out _; (with_reducible repeat (first | refine blk_drewN ?_ _ | refine blk_drew ?_ | refine blk_alloc ?_ _)); refine blk_far ?_ NB238_258.out _; (with_reducible repeat (first | refine blk_drewN ?_ _ | refine blk_drew ?_ | refine blk_alloc ?_ _)); refine blk_far ?_ NB238_258.out _; (with_reducible repeat (first | refine blk_drewN ?_ _ | refine blk_drew ?_ | refine blk_alloc ?_ _)); refine blk_far ?_ NB238_258.out _; (with_reducible repeat (first | refine blk_drewN ?_ _ | refine blk_drew ?_ | refine blk_alloc ?_ _)); refine blk_far ?_ NB238_258.out _; (with_reducible repeat (first | refine blk_drewN ?_ _ | refine blk_drew ?_ | refine blk_alloc ?_ _)); exact BK238.out) hb); have n1_ := Aside0.mk (blk_below (g := gb252) (o := .cells #[.int .u16 t246, .int .u8 t247, .int .u8 t248, .int .u8 t249, .int .u8 t250] 24 (0, 0)) (by (with_reducible repeat (first | refine blk_drewN ?_ _ | refine blk_drew ?_ | refine blk_alloc ?_ _)); refine blk_far ?_ NB252_258.out _; (with_reducible repeat (first | refine blk_drewN ?_ _ | refine blk_drew ?_ | refine blk_alloc ?_ _)); refine blk_far ?_ NB252_258.out _; (with_reducible repeat (first | refine blk_drewN ?_ _ | refine blk_drew ?_ | refine blk_alloc ?_ _)); refine blk_far ?_ NB252_258.out _; (with_reducible repeat (first | refine blk_drewN ?_ _ | refine blk_drew ?_ | refine blk_alloc ?_ _)); refine blk_far ?_ NB252_258.out _; (with_reducible repeat (first | refine blk_drewN ?_ _ | refine blk_drew ?_ | refine blk_alloc ?_ _)); refine blk_far ?_ NB252_258.out _; (with_reducible repeat (first | refine blk_drewN ?_ _ | refine blk_drew ?_ | refine blk_alloc ?_ _)); exact BK252.out) hb); have n2_ := Aside0.mk (blk_below (g := gb258) (o := .cells #[.int .u16 t253, .int .u8 t254, .int .u8 t255, .int .u8 t256, .int .u8 t257] 24 (0, 0)) (by (with_reducible repeat (first | refine blk_drewN ?_ _ | refine blk_drew ?_ | refine blk_alloc ?_ _)); refine blk_put (cs := #[.int .u16 t253, .int .u8 t254, .int .u8 t255, .int .u8 t256, .int .u8 0]) ?_ 4 _ rfl; (with_reducible repeat (first | refine blk_drewN ?_ _ | refine blk_drew ?_ | refine blk_alloc ?_ _)); refine blk_put (cs := #[.int .u16 t253, .int .u8 t254, .int .u8 t255, .int .u8 0, .int .u8 0]) ?_ 3 _ rfl; (with_reducible repeat (first | refine blk_drewN ?_ _ | refine blk_drew ?_ | refine blk_alloc ?_ _)); refine blk_put (cs := #[.int .u16 t253, .int .u8 t254, .int .u8 0, .int .u8 0, .int .u8 0]) ?_ 2 _ rfl; (with_reducible repeat (first | refine blk_drewN ?_ _ | refine blk_drew ?_ | refine blk_alloc ?_ _)); refine blk_put (cs := #[.int .u16 t253, .int .u8 0, .int .u8 0, .int .u8 0, .int .u8 0]) ?_ 1 _ rfl; (with_reducible repeat (first | refine blk_drewN ?_ _ | refine blk_drew ?_ | refine blk_alloc ?_ _)); refine blk_put (cs := #[.int .u16 0, .int .u8 0, .int .u8 0, .int .u8 0, .int .u8 0]) ?_ 0 _ rfl; (with_reducible repeat (first | refine blk_drewN ?_ _ | refine blk_drew ?_ | refine blk_alloc ?_ _)); exact BK258.out) hb); have n3_ := Aside0.mk (below_step (by repeat (first | (with_reducible first | exact HB.out | apply below_alloc | apply pw_below_drewN | apply below_drew1 | refine below_set ?_ GE238.out | refine below_set ?_ GE252.out | refine below_set ?_ GE258.out) | exact HB.out)) hb); clear BK238; clear BK252; clear BK258; clear HB; have BK238 := n0_; have BK252 := n1_; have BK258 := n2_; have HB := n3_; clear n0_ n1_ n2_ n3_; (try clear hb); (try clear hb2); (try clear hk); (try clear hi)) | ((with_reducible refine gate_dst (N := 14) rfl ?_); refine box_event ?hg (N := 14) ?hd (cs := #[.int .u16 0, .int .u8 0, .int .u8 0, .int .u8 0, .int .u8 0]) (t := 24) ?hr ?_; (case hd => rfl); (case hg => rfl); (case hr => first | (go_simp; done) | (go_simp; rfl)); intro gb264 hg w94 hbox hb; have n0_ := Aside0.mk (blk_below (g := gb238) (o := .cells #[.int .u16 x239000_1, .int .u8 x239001_1, .int .u8 x239002_1, .int .u8 x239003_1, .int .u8 x239004_1] 24 (0, 0)) (by (with_reducible repeat (first | refine blk_drewN ?_ _ | refine blk_drew ?_ | refine blk_alloc ?_ _)); exact BK238.out) hb); have n1_ := Aside0.mk (blk_below (g := gb252) (o := .cells #[.int .u16 t246, .int .u8 t247, .int .u8 t248, .int .u8 t249, .int .u8 t250] 24 (0, 0)) (by (with_reducible repeat (first | refine blk_drewN ?_ _ | refine blk_drew ?_ | refine blk_alloc ?_ _)); exact BK252.out) hb); have n2_ := Aside0.mk (blk_below (g := gb258) (o := .cells #[.int .u16 t253, .int .u8 t254, .int .u8 t255, .int .u8 t256, .int .u8 t257] 24 (0, 0)) (by (with_reducible repeat (first | refine blk_drewN ?_ _ | refine blk_drew ?_ | refine blk_alloc ?_ _)); exact BK258.out) hb); have n3_ := Aside0.mk (below_step (by repeat (first | (with_reducible first | exact HB.out | apply below_alloc | apply pw_below_drewN | apply below_drew1 | refine below_set ?_ GE238.out | refine below_set ?_ GE252.out | refine below_set ?_ GE258.out) | exact HB.out)) hb); have n4_ := Aside0.mk (hbox); have n5_ := Aside0.mk ((by rw [hg]; exact (below_size (by repeat (first | (with_reducible first | exact HB.out | apply below_alloc | apply pw_below_drewN | apply below_drew1 | refine below_set ?_ GE238.out | refine below_set ?_ GE252.out | refine below_set ?_ GE258.out) | exact HB.out))) : w.heap.size ≤ gb264)); have n6_ := Aside0.mk ((by rw [hg]; exact (below_size (by repeat (first | (with_reducible first | exact HB.out | apply below_alloc | apply pw_below_drewN | apply below_drew1 | refine below_set ?_ GE238.out | refine below_set ?_ GE252.out | refine below_set ?_ GE258.out) | exact HB.out))) : w.heap.size ≤ gb264)); have n7_ := Aside0.mk ((by rw [hg]; exact Nat.ne_of_lt (blk_lt (g := gb238) (o := .cells #[.int .u16 x239000_1, .int .u8 x239001_1, .int .u8 x239002_1, .int .u8 x239003_1, .int .u8 x239004_1] 24 (0, 0)) (by (with_reducible repeat (first | refine blk_drewN ?_ _ | refine blk_drew ?_ | refine blk_alloc ?_ _)); exact BK238.out)) : gb238 ≠ gb264)); have n8_ := Aside0.mk ((by rw [hg]; exact Nat.ne_of_gt (blk_lt (g := gb238) (o := .cells #[.int .u16 x239000_1, .int .u8 x239001_1, .int .u8 x239002_1, .int .u8 x239003_1, .int .u8 x239004_1] 24 (0, 0)) (by (with_reducible repeat (first | refine blk_drewN ?_ _ | refine blk_drew ?_ | refine blk_alloc ?_ _)); exact BK238.out)) : gb264 ≠ gb238)); have n9_ := Aside0.mk ((by rw [hg]; exact Nat.ne_of_lt (blk_lt (g := gb252) (o := .cells #[.int .u16 t246, .int .u8 t247, .int .u8 t248, .int .u8 t249, .int .u8 t250] 24 (0, 0)) (by (with_reducible repeat (first | refine blk_drewN ?_ _ | refine blk_drew ?_ | refine blk_alloc ?_ _)); exact BK252.out)) : gb252 ≠ gb264)); have n10_ := Aside0.mk ((by rw [hg]; exact Nat.ne_of_gt (blk_lt (g := gb252) (o := .cells #[.int .u16 t246, .int .u8 t247, .int .u8 t248, .int .u8 t249, .int .u8 t250] 24 (0, 0)) (by (with_reducible repeat (first | refine blk_drewN ?_ _ | refine blk_drew ?_ | refine blk_alloc ?_ _)); exact BK252.out)) : gb264 ≠ gb252)); have n11_ := Aside0.mk ((by rw [hg]; exact Nat.ne_of_lt (blk_lt (g := gb258) (o := .cells #[.int .u16 t253, .int .u8 t254, .int .u8 t255, .int .u8 t256, .int .u8 t257] 24 (0, 0)) (by (with_reducible repeat (first | refine blk_drewN ?_ _ | refine blk_drew ?_ | refine blk_alloc ?_ _)); exact BK258.out)) : gb258 ≠ gb264)); have n12_ := Aside0.mk ((by rw [hg]; exact Nat.ne_of_gt (blk_lt (g := gb258) (o := .cells #[.int .u16 t253, .int .u8 t254, .int .u8 t255, .int .u8 t256, .int .u8 t257] 24 (0, 0)) (by (with_reducible repeat (first | refine blk_drewN ?_ _ | refine blk_drew ?_ | refine blk_alloc ?_ _)); exact BK258.out)) : gb264 ≠ gb258)); clear BK238; clear BK252; clear BK258; clear HB; have BK238 := n0_; have BK252 := n1_; have BK258 := n2_; have HB := n3_; have BK264 := n4_; have GW264 := n5_; have GE264 := n6_; have NB238_264 := n7_; have NB264_238 := n8_; have NB252_264 := n9_; have NB264_252 := n10_; have NB258_264 := n11_; have NB264_258 := n12_; clear n0_ n1_ n2_ n3_ n4_ n5_ n6_ n7_ n8_ n9_ n10_ n11_ n12_; clear hb hbox hg; have hnb95 := NB264_238.out; have hnc95 := NB238_264.out; have hnb96 := NB264_252.out; have hnc96 := NB252_264.out; have hnb97 := NB264_258.out; have hnc97 := NB258_264.out; have hcz98_0 : w94.cell? ⟨gb264, 0, none⟩ = some (.int .u16 0) := (blk_cell BK264.out 0).trans rfl; have hcz98_1 : w94.cell? ⟨gb264, 1, none⟩ = some (.int .u8 0) := (blk_cell BK264.out 1).trans rfl; have hcz98_2 : w94.cell? ⟨gb264, 2, none⟩ = some (.int .u8 0) := (blk_cell BK264.out 2).trans rfl; have hcz98_3 : w94.cell? ⟨gb264, 3, none⟩ = some (.int .u8 0) := (blk_cell BK264.out 3).trans rfl; have hcz98_4 : w94.cell? ⟨gb264, 4, none⟩ = some (.int .u8 0) := (blk_cell BK264.out 4).trans rfl; have hfz98_0 := blk_frozen BK264.out 0; have hfz98_1 := blk_frozen BK264.out 1; have hfz98_2 := blk_frozen BK264.out 2; have hfz98_3 := blk_frozen BK264.out 3; have hfz98_4 := blk_frozen BK264.out 4; have hcz99_0 : w94.cell? ⟨gb238, 0, none⟩ = some (.int .u16 x239000_1) := (blk_cell BK238.out 0).trans rfl; have hcz99_1 : w94.cell? ⟨gb238, 1, none⟩ = some (.int .u8 x239001_1) := (blk_cell BK238.out 1).trans rfl; have hcz99_2 : w94.cell? ⟨gb238, 2, none⟩ = some (.int .u8 x239002_1) := (blk_cell BK238.out 2).trans rfl; have hcz99_3 : w94.cell? ⟨gb238, 3, none⟩ = some (.int .u8 x239003_1) := (blk_cell BK238.out 3).trans rfl; have hcz99_4 : w94.cell? ⟨gb238, 4, none⟩ = some (.int .u8 x239004_1) := (blk_cell BK238.out 4).trans rfl; have hfz99_0 := blk_frozen BK238.out 0; have hfz99_1 := blk_frozen BK238.out 1; have hfz99_2 := blk_frozen BK238.out 2; have hfz99_3 := blk_frozen BK238.out 3; have hfz99_4 := blk_frozen BK238.out 4) | ((with_reducible refine gate_callee (f := 15) rfl ?_); refine goesL_ (some 64) rfl rfl Try.func15 (by kernel_rfl) rfl #[.agg #[.int .u16 x239000_1, .int .u8 x239001_1, .int .u8 x239002_1, .int .u8 x239003_1, .int .u8 x239004_1], .int .u16 65285, .int .u8 a2] rfl (by (try simp only [List.map_toArray, List.map_cons, List.map_nil]); first | done | rfl | (simp only [List.length_drop, List.length_take]; rfl)) ?_; (with_reducible refine (timer_Write.calls kj20 x239000_1 x239001_1 x239002_1 x239003_1 x239004_1 65285 a2 t265 t266 t267 t268 t269 _ A32.out).mono ?_); rintro e w100 ⟨rfl, hb⟩; refine ⟨_, rfl, ?_⟩; have n0_ := Aside0.mk (blk_below (g := gb238) (o := .cells #[.int .u16 x239000_1, .int .u8 x239001_1, .int .u8 x239002_1, .int .u8 x239003_1, .int .u8 x239004_1] 24 (0, 0)) (by (with_reducible repeat (first | refine blk_drewN ?_ _ | refine blk_drew ?_ | refine blk_alloc ?_ _)); refine blk_far ?_ NB238_264.out _; (with_reducible repeat (first | refine blk_drewN ?_ _ | refine blk_drew ?_ | refine blk_alloc ?_ _)); refine blk_far ?_ NB238_264.out _; (with_reducible repeat (first | refine blk_drewN ?_ _ | refine blk_drew ?_ | refine blk_alloc ?_ _)); refine blk_far ?_ NB238_264.out _; (with_reducible repeat (first | refine blk_drewN ?_ _ | refine blk_drew ?_ | refine blk_alloc ?_ _)); refine blk_far ?_ NB238_264.out _; (with_reducible repeat (first | refine blk_drewN ?_ _ | refine blk_drew ?_ | refine blk_alloc ?_ _)); refine blk_far ?_ NB238_264.out _; (with_reducible repeat (first | refine blk_drewN ?_ _ | refine blk_drew ?_ | refine blk_alloc ?_ _)); exact BK238.out) hb); have n1_ := Aside0.mk (blk_below (g := gb252) (o := .cells #[.int .u16 t246, .int .u8 t247, .int .u8 t248, .int .u8 t249, .int .u8 t250] 24 (0, 0)) (by (with_reducible repeat (first | refine blk_drewN ?_ _ | refine blk_drew ?_ | refine blk_alloc ?_ _)); refine blk_far ?_ NB252_264.out _; (with_reducible repeat (first | refine blk_drewN ?_ _ | refine blk_drew ?_ | refine blk_alloc ?_ _)); refine blk_far ?_ NB252_264.out _; (with_reducible repeat (first | refine blk_drewN ?_ _ | refine blk_drew ?_ | refine blk_alloc ?_ _)); refine blk_far ?_ NB252_264.out _; (with_reducible repeat (first | refine blk_drewN ?_ _ | refine blk_drew ?_ | refine blk_alloc ?_ _)); refine blk_far ?_ NB252_264.out _; (with_reducible repeat (first | refine blk_drewN ?_ _ | refine blk_drew ?_ | refine blk_alloc ?_ _)); refine blk_far ?_ NB252_264.out _; (with_reducible repeat (first | refine blk_drewN ?_ _ | refine blk_drew ?_ | refine blk_alloc ?_ _)); exact BK252.out) hb); have n2_ := Aside0.mk (blk_below (g := gb258) (o := .cells #[.int .u16 t253, .int .u8 t254, .int .u8 t255, .int .u8 t256, .int .u8 t257] 24 (0, 0)) (by (with_reducible repeat (first | refine blk_drewN ?_ _ | refine blk_drew ?_ | refine blk_alloc ?_ _)); refine blk_far ?_ NB258_264.out _; (with_reducible repeat (first | refine blk_drewN ?_ _ | refine blk_drew ?_ | refine blk_alloc ?_ _)); refine blk_far ?_ NB258_264.out _; (with_reducible repeat (first | refine blk_drewN ?_ _ | refine blk_drew ?_ | refine blk_alloc ?_ _)); refine blk_far ?_ NB258_264.out _; (with_reducible repeat (first | refine blk_drewN ?_ _ | refine blk_drew ?_ | refine blk_alloc ?_ _)); refine blk_far ?_ NB258_264.out _; (with_reducible repeat (first | refine blk_drewN ?_ _ | refine blk_drew ?_ | refine blk_alloc ?_ _)); refine blk_far ?_ NB258_264.out _; (with_reducible repeat (first | refine blk_drewN ?_ _ | refine blk_drew ?_ | refine blk_alloc ?_ _)); exact BK258.out) hb); have n3_ := Aside0.mk (blk_below (g := gb264) (o := .cells #[.int .u16 t259, .int .u8 t260, .int .u8 t261, .int .u8 t262, .int .u8 t263] 24 (0, 0)) (by (with_reducible repeat (first | refine blk_drewN ?_ _ | refine blk_drew ?_ | refine blk_alloc ?_ _)); refine blk_put (cs := #[.int .u16 t259, .int .u8 t260, .int .u8 t261, .int .u8 t262, .int .u8 0]) ?_ 4 _ rfl; (with_reducible repeat (first | refine blk_drewN ?_ _ | refine blk_drew ?_ | refine blk_alloc ?_ _)); refine blk_put (cs := #[.int .u16 t259, .int .u8 t260, .int .u8 t261, .int .u8 0, .int .u8 0]) ?_ 3 _ rfl; (with_reducible repeat (first | refine blk_drewN ?_ _ | refine blk_drew ?_ | refine blk_alloc ?_ _)); refine blk_put (cs := #[.int .u16 t259, .int .u8 t260, .int .u8 0, .int .u8 0, .int .u8 0]) ?_ 2 _ rfl; (with_reducible repeat (first | refine blk_drewN ?_ _ | refine blk_drew ?_ | refine blk_alloc ?_ _)); refine blk_put (cs := #[.int .u16 t259, .int .u8 0, .int .u8 0, .int .u8 0, .int .u8 0]) ?_ 1 _ rfl; (with_reducible repeat (first | refine blk_drewN ?_ _ | refine blk_drew ?_ | refine blk_alloc ?_ _)); refine blk_put (cs := #[.int .u16 0, .int .u8 0, .int .u8 0, .int .u8 0, .int .u8 0]) ?_ 0 _ rfl; (with_reducible repeat (first | refine blk_drewN ?_ _ | refine blk_drew ?_ | refine blk_alloc ?_ _)); exact BK264.out) hb); have n4_ := Aside0.mk (below_step (by repeat (first | (with_reducible first | exact HB.out | apply below_alloc | apply pw_below_drewN | apply below_drew1 | refine below_set ?_ GE238.out | refine below_set ?_ GE252.out | refine below_set ?_ GE258.out | refine below_set ?_ GE264.out) | exact HB.out)) hb); clear BK238; clear BK252; clear BK258; clear BK264; clear HB; have BK238 := n0_; have BK252 := n1_; have BK258 := n2_; have BK264 := n3_; have HB := n4_; clear n0_ n1_ n2_ n3_ n4_; (try clear hb); (try clear hb2); (try clear hk); (try clear hi)) | ((with_reducible refine gate_callee (f := 13) rfl ?_); refine goesL_ (some 65) rfl rfl Try.func13 (by kernel_rfl) rfl #[.agg #[.int .u16 t265, .int .u8 t266, .int .u8 t267, .int .u8 t268, .int .u8 t269]] rfl (by (try simp only [List.map_toArray, List.map_cons, List.map_nil]); first | done | rfl | (simp only [List.length_drop, List.length_take]; rfl)) ?_; (with_reducible refine (timer_Step.calls kj20 t265 t266 t267 t268 t269 t270 t271 t272 t273 t274 false _ A33.out).mono ?_); rintro e w101 ⟨rfl, hb⟩; refine ⟨_, rfl, ?_⟩; have n0_ := Aside0.mk (blk_below (g := gb238) (o := .cells #[.int .u16 x239000_1, .int .u8 x239001_1, .int .u8 x239002_1, .int .u8 x239003_1, .int .u8 x239004_1] 24 (0, 0)) (by (with_reducible repeat (first | refine blk_drewN ?_ _ | refine blk_drew ?_ | refine blk_alloc ?_ _)); exact BK238.out) hb); have n1_ := Aside0.mk (blk_below (g := gb252) (o := .cells #[.int .u16 t246, .int .u8 t247, .int .u8 t248, .int .u8 t249, .int .u8 t250] 24 (0, 0)) (by (with_reducible repeat (first | refine blk_drewN ?_ _ | refine blk_drew ?_ | refine blk_alloc ?_ _)); exact BK252.out) hb); have n2_ := Aside0.mk (blk_below (g := gb258) (o := .cells #[.int .u16 t253, .int .u8 t254, .int .u8 t255, .int .u8 t256, .int .u8 t257] 24 (0, 0)) (by (with_reducible repeat (first | refine blk_drewN ?_ _ | refine blk_drew ?_ | refine blk_alloc ?_ _)); exact BK258.out) hb); have n3_ := Aside0.mk (blk_below (g := gb264) (o := .cells #[.int .u16 t259, .int .u8 t260, .int .u8 t261, .int .u8 t262, .int .u8 t263] 24 (0, 0)) (by (with_reducible repeat (first | refine blk_drewN ?_ _ | refine blk_drew ?_ | refine blk_alloc ?_ _)); exact BK264.out) hb); have n4_ := Aside0.mk (below_step (by repeat (first | (with_reducible first | exact HB.out | apply below_alloc | apply pw_below_drewN | apply below_drew1 | refine below_set ?_ GE238.out | refine below_set ?_ GE252.out | refine below_set ?_ GE258.out | refine below_set ?_ GE264.out) | exact HB.out)) hb); clear BK238; clear BK252; clear BK258; clear BK264; clear HB; have BK238 := n0_; have BK252 := n1_; have BK258 := n2_; have BK264 := n3_; have HB := n4_; clear n0_ n1_ n2_ n3_ n4_; (try clear hb); (try clear hb2); (try clear hk); (try clear hi)) | ((with_reducible refine gate_dst (N := 15) rfl ?_); refine box_event ?hg (N := 15) ?hd (cs := #[.int .u16 0, .int .u8 0, .int .u8 0, .int .u8 0, .int .u8 0]) (t := 24) ?hr ?_; (case hd => rfl); (case hg => rfl); (case hr => first | (go_simp; done) | (go_simp; rfl)); intro gb276 hg w102 hbox hb; have n0_ := Aside0.mk (blk_below (g := gb238) (o := .cells #[.int .u16 x239000_1, .int .u8 x239001_1, .int .u8 x239002_1, .int .u8 x239003_1, .int .u8 x239004_1] 24 (0, 0)) (by (with_reducible repeat (first | refine blk_drewN ?_ _ | refine blk_drew ?_ | refine blk_alloc ?_ _)); exact BK238.out) hb); have n1_ := Aside0.mk (blk_below (g := gb252) (o := .cells #[.int .u16 t246, .int .u8 t247, .int .u8 t248, .int .u8 t249, .int .u8 t250] 24 (0, 0)) (by (with_reducible repeat (first | refine blk_drewN ?_ _ | refine blk_drew ?_ | refine blk_alloc ?_ _)); exact BK252.out) hb); have n2_ := Aside0.mk (blk_below (g := gb258) (o := .cells #[.int .u16 t253, .int .u8 t254, .int .u8 t255, .int .u8 t256, .int .u8 t257] 24 (0, 0)) (by (with_reducible repeat (first | refine blk_drewN ?_ _ | refine blk_drew ?_ | refine blk_alloc ?_ _)); exact BK258.out) hb); have n3_ := Aside0.mk (blk_below (g := gb264) (o := .cells #[.int .u16 t259, .int .u8 t260, .int .u8 t261, .int .u8 t262, .int .u8 t263] 24 (0, 0)) (by (with_reducible repeat (first | refine blk_drewN ?_ _ | refine blk_drew ?_ | refine blk_alloc ?_ _)); exact BK264.out) hb); have n4_ := Aside0.mk (below_step (by repeat (first | (with_reducible first | exact HB.out | apply below_alloc | apply pw_below_drewN | apply below_drew1 | refine below_set ?_ GE238.out | refine below_set ?_ GE252.out | refine below_set ?_ GE258.out | refine below_set ?_ GE264.out) | exact HB.out)) hb); have n5_ := Aside0.mk (hbox); have n6_ := Aside0.mk ((by rw [hg]; exact (below_size (by repeat (first | (with_reducible first | exact HB.out | apply below_alloc | apply pw_below_drewN | apply below_drew1 | refine below_set ?_ GE238.out | refine below_set ?_ GE252.out | refine below_set ?_ GE258.out | refine below_set ?_ GE264.out) | exact HB.out))) : w.heap.size ≤ gb276)); have n7_ := Aside0.mk ((by rw [hg]; exact (below_size (by repeat (first | (with_reducible first | exact HB.out | apply below_alloc | apply pw_below_drewN | apply below_drew1 | refine below_set ?_ GE238.out | refine below_set ?_ GE252.out | refine below_set ?_ GE258.out | refine below_set ?_ GE264.out) | exact HB.out))) : w.heap.size ≤ gb276)); have n8_ := Aside0.mk ((by rw [hg]; exact Nat.ne_of_lt (blk_lt (g := gb238) (o := .cells #[.int .u16 x239000_1, .int .u8 x239001_1, .int .u8 x239002_1, .int .u8 x239003_1, .int .u8 x239004_1] 24 (0, 0)) (by (with_reducible repeat (first | refine blk_drewN ?_ _ | refine blk_drew ?_ | refine blk_alloc ?_ _)); exact BK238.out)) : gb238 ≠ gb276)); have n9_ := Aside0.mk ((by rw [hg]; exact Nat.ne_of_gt (blk_lt (g := gb238) (o := .cells #[.int .u16 x239000_1, .int .u8 x239001_1, .int .u8 x239002_1, .int .u8 x239003_1, .int .u8 x239004_1] 24 (0, 0)) (by (with_reducible repeat (first | refine blk_drewN ?_ _ | refine blk_drew ?_ | refine blk_alloc ?_ _)); exact BK238.out)) : gb276 ≠ gb238)); have n10_ := Aside0.mk ((by rw [hg]; exact Nat.ne_of_lt (blk_lt (g := gb252) (o := .cells #[.int .u16 t246, .int .u8 t247, .int .u8 t248, .int .u8 t249, .int .u8 t250] 24 (0, 0)) (by (with_reducible repeat (first | refine blk_drewN ?_ _ | refine blk_drew ?_ | refine blk_alloc ?_ _)); exact BK252.out)) : gb252 ≠ gb276)); have n11_ := Aside0.mk ((by rw [hg]; exact Nat.ne_of_gt (blk_lt (g := gb252) (o := .cells #[.int .u16 t246, .int .u8 t247, .int .u8 t248, .int .u8 t249, .int .u8 t250] 24 (0, 0)) (by (with_reducible repeat (first | refine blk_drewN ?_ _ | refine blk_drew ?_ | refine blk_alloc ?_ _)); exact BK252.out)) : gb276 ≠ gb252)); have n12_ := Aside0.mk ((by rw [hg]; exact Nat.ne_of_lt (blk_lt (g := gb258) (o := .cells #[.int .u16 t253, .int .u8 t254, .int .u8 t255, .int .u8 t256, .int .u8 t257] 24 (0, 0)) (by (with_reducible repeat (first | refine blk_drewN ?_ _ | refine blk_drew ?_ | refine blk_alloc ?_ _)); exact BK258.out)) : gb258 ≠ gb276)); have n13_ := Aside0.mk ((by rw [hg]; exact Nat.ne_of_gt (blk_lt (g := gb258) (o := .cells #[.int .u16 t253, .int .u8 t254, .int .u8 t255, .int .u8 t256, .int .u8 t257] 24 (0, 0)) (by (with_reducible repeat (first | refine blk_drewN ?_ _ | refine blk_drew ?_ | refine blk_alloc ?_ _)); exact BK258.out)) : gb276 ≠ gb258)); have n14_ := Aside0.mk ((by rw [hg]; exact Nat.ne_of_lt (blk_lt (g := gb264) (o := .cells #[.int .u16 t259, .int .u8 t260, .int .u8 t261, .int .u8 t262, .int .u8 t263] 24 (0, 0)) (by (with_reducible repeat (first | refine blk_drewN ?_ _ | refine blk_drew ?_ | refine blk_alloc ?_ _)); exact BK264.out)) : gb264 ≠ gb276)); have n15_ := Aside0.mk ((by rw [hg]; exact Nat.ne_of_gt (blk_lt (g := gb264) (o := .cells #[.int .u16 t259, .int .u8 t260, .int .u8 t261, .int .u8 t262, .int .u8 t263] 24 (0, 0)) (by (with_reducible repeat (first | refine blk_drewN ?_ _ | refine blk_drew ?_ | refine blk_alloc ?_ _)); exact BK264.out)) : gb276 ≠ gb264)); clear BK238; clear BK252; clear BK258; clear BK264; clear HB; have BK238 := n0_; have BK252 := n1_; have BK258 := n2_; have BK264 := n3_; have HB := n4_; have BK276 := n5_; have GW276 := n6_; have GE276 := n7_; have NB238_276 := n8_; have NB276_238 := n9_; have NB252_276 := n10_; have NB276_252 := n11_; have NB258_276 := n12_; have NB276_258 := n13_; have NB264_276 := n14_; have NB276_264 := n15_; clear n0_ n1_ n2_ n3_ n4_ n5_ n6_ n7_ n8_ n9_ n10_ n11_ n12_ n13_ n14_ n15_; clear hb hbox hg; have hnb103 := NB276_238.out; have hnc103 := NB238_276.out; have hnb104 := NB276_252.out; have hnc104 := NB252_276.out; have hnb105 := NB276_258.out; have hnc105 := NB258_276.out; have hnb106 := NB276_264.out; have hnc106 := NB264_276.out; have hcz107_0 : w102.cell? ⟨gb276, 0, none⟩ = some (.int .u16 0) := (blk_cell BK276.out 0).trans rfl; have hcz107_1 : w102.cell? ⟨gb276, 1, none⟩ = some (.int .u8 0) := (blk_cell BK276.out 1).trans rfl; have hcz107_2 : w102.cell? ⟨gb276, 2, none⟩ = some (.int .u8 0) := (blk_cell BK276.out 2).trans rfl; have hcz107_3 : w102.cell? ⟨gb276, 3, none⟩ = some (.int .u8 0) := (blk_cell BK276.out 3).trans rfl; have hcz107_4 : w102.cell? ⟨gb276, 4, none⟩ = some (.int .u8 0) := (blk_cell BK276.out 4).trans rfl; have hfz107_0 := blk_frozen BK276.out 0; have hfz107_1 := blk_frozen BK276.out 1; have hfz107_2 := blk_frozen BK276.out 2; have hfz107_3 := blk_frozen BK276.out 3; have hfz107_4 := blk_frozen BK276.out 4; have hcz108_0 : w102.cell? ⟨gb252, 0, none⟩ = some (.int .u16 t246) := (blk_cell BK252.out 0).trans rfl; have hcz108_1 : w102.cell? ⟨gb252, 1, none⟩ = some (.int .u8 t247) := (blk_cell BK252.out 1).trans rfl; have hcz108_2 : w102.cell? ⟨gb252, 2, none⟩ = some (.int .u8 t248) := (blk_cell BK252.out 2).trans rfl; have hcz108_3 : w102.cell? ⟨gb252, 3, none⟩ = some (.int .u8 t249) := (blk_cell BK252.out 3).trans rfl; have hcz108_4 : w102.cell? ⟨gb252, 4, none⟩ = some (.int .u8 t250) := (blk_cell BK252.out 4).trans rfl; have hfz108_0 := blk_frozen BK252.out 0; have hfz108_1 := blk_frozen BK252.out 1; have hfz108_2 := blk_frozen BK252.out 2; have hfz108_3 := blk_frozen BK252.out 3; have hfz108_4 := blk_frozen BK252.out 4) | ((with_reducible refine gate_callee (f := 13) rfl ?_); refine goesL_ (some 70) rfl rfl Try.func13 (by kernel_rfl) rfl #[.agg #[.int .u16 t246, .int .u8 t247, .int .u8 t248, .int .u8 t249, .int .u8 t250]] rfl (by (try simp only [List.map_toArray, List.map_cons, List.map_nil]); first | done | rfl | (simp only [List.length_drop, List.length_take]; rfl)) ?_; (with_reducible refine (timer_Step.calls kj20 t246 t247 t248 t249 t250 t277 t278 t279 t280 t281 t282 _ A34.out).mono ?_); rintro e w109 ⟨rfl, hb⟩; refine ⟨_, rfl, ?_⟩; have n0_ := Aside0.mk (blk_below (g := gb238) (o := .cells #[.int .u16 x239000_1, .int .u8 x239001_1, .int .u8 x239002_1, .int .u8 x239003_1, .int .u8 x239004_1] 24 (0, 0)) (by (with_reducible repeat (first | refine blk_drewN ?_ _ | refine blk_drew ?_ | refine blk_alloc ?_ _)); refine blk_far ?_ NB238_276.out _; (with_reducible repeat (first | refine blk_drewN ?_ _ | refine blk_drew ?_ | refine blk_alloc ?_ _)); refine blk_far ?_ NB238_276.out _; (with_reducible repeat (first | refine blk_drewN ?_ _ | refine blk_drew ?_ | refine blk_alloc ?_ _)); refine blk_far ?_ NB238_276.out _; (with_reducible repeat (first | refine blk_drewN ?_ _ | refine blk_drew ?_ | refine blk_alloc ?_ _)); refine blk_far ?_ NB238_276.out _; (with_reducible repeat (first | refine blk_drewN ?_ _ | refine blk_drew ?_ | refine blk_alloc ?_ _)); refine blk_far ?_ NB238_276.out _; (with_reducible repeat (first | refine blk_drewN ?_ _ | refine blk_drew ?_ | refine blk_alloc ?_ _)); exact BK238.out) hb); have n1_ := Aside0.mk (blk_below (g := gb252) (o := .cells #[.int .u16 t246, .int .u8 t247, .int .u8 t248, .int .u8 t249, .int .u8 t250] 24 (0, 0)) (by (with_reducible repeat (first | refine blk_drewN ?_ _ | refine blk_drew ?_ | refine blk_alloc ?_ _)); refine blk_far ?_ NB252_276.out _; (with_reducible repeat (first | refine blk_drewN ?_ _ | refine blk_drew ?_ | refine blk_alloc ?_ _)); refine blk_far ?_ NB252_276.out _; (with_reducible repeat (first | refine blk_drewN ?_ _ | refine blk_drew ?_ | refine blk_alloc ?_ _)); refine blk_far ?_ NB252_276.out _; (with_reducible repeat (first | refine blk_drewN ?_ _ | refine blk_drew ?_ | refine blk_alloc ?_ _)); refine blk_far ?_ NB252_276.out _; (with_reducible repeat (first | refine blk_drewN ?_ _ | refine blk_drew ?_ | refine blk_alloc ?_ _)); refine blk_far ?_ NB252_276.out _; (with_reducible repeat (first | refine blk_drewN ?_ _ | refine blk_drew ?_ | refine blk_alloc ?_ _)); exact BK252.out) hb); have n2_ := Aside0.mk (blk_below (g := gb258) (o := .cells #[.int .u16 t253, .int .u8 t254, .int .u8 t255, .int .u8 t256, .int .u8 t257] 24 (0, 0)) (by (with_reducible repeat (first | refine blk_drewN ?_ _ | refine blk_drew ?_ | refine blk_alloc ?_ _)); refine blk_far ?_ NB258_276.out _; (with_reducible repeat (first | refine blk_drewN ?_ _ | refine blk_drew ?_ | refine blk_alloc ?_ _)); refine blk_far ?_ NB258_276.out _; (with_reducible repeat (first | refine blk_drewN ?_ _ | refine blk_drew ?_ | refine blk_alloc ?_ _)); refine blk_far ?_ NB258_276.out _; (with_reducible repeat (first | refine blk_drewN ?_ _ | refine blk_drew ?_ | refine blk_alloc ?_ _)); refine blk_far ?_ NB258_276.out _; (with_reducible repeat (first | refine blk_drewN ?_ _ | refine blk_drew ?_ | refine blk_alloc ?_ _)); refine blk_far ?_ NB258_276.out _; (with_reducible repeat (first | refine blk_drewN ?_ _ | refine blk_drew ?_ | refine blk_alloc ?_ _)); exact BK258.out) hb); have n3_ := Aside0.mk (blk_below (g := gb264) (o := .cells #[.int .u16 t259, .int .u8 t260, .int .u8 t261, .int .u8 t262, .int .u8 t263] 24 (0, 0)) (by (with_reducible repeat (first | refine blk_drewN ?_ _ | refine blk_drew ?_ | refine blk_alloc ?_ _)); refine blk_far ?_ NB264_276.out _; (with_reducible repeat (first | refine blk_drewN ?_ _ | refine blk_drew ?_ | refine blk_alloc ?_ _)); refine blk_far ?_ NB264_276.out _; (with_reducible repeat (first | refine blk_drewN ?_ _ | refine blk_drew ?_ | refine blk_alloc ?_ _)); refine blk_far ?_ NB264_276.out _; (with_reducible repeat (first | refine blk_drewN ?_ _ | refine blk_drew ?_ | refine blk_alloc ?_ _)); refine blk_far ?_ NB264_276.out _; (with_reducible repeat (first | refine blk_drewN ?_ _ | refine blk_drew ?_ | refine blk_alloc ?_ _)); refine blk_far ?_ NB264_276.out _; (with_reducible repeat (first | refine blk_drewN ?_ _ | refine blk_drew ?_ | refine blk_alloc ?_ _)); exact BK264.out) hb); have n4_ := Aside0.mk (blk_below (g := gb276) (o := .cells #[.int .u16 t270, .int .u8 t271, .int .u8 t272, .int .u8 t273, .int .u8 t274] 24 (0, 0)) (by (with_reducible repeat (first | refine blk_drewN ?_ _ | refine blk_drew ?_ | refine blk_alloc ?_ _)); refine blk_put (cs := #[.int .u16 t270, .int .u8 t271, .int .u8 t272, .int .u8 t273, .int .u8 0]) ?_ 4 _ rfl; (with_reducible repeat (first | refine blk_drewN ?_ _ | refine blk_drew ?_ | refine blk_alloc ?_ _)); refine blk_put (cs := #[.int .u16 t270, .int .u8 t271, .int .u8 t272, .int .u8 0, .int .u8 0]) ?_ 3 _ rfl; (with_reducible repeat (first | refine blk_drewN ?_ _ | refine blk_drew ?_ | refine blk_alloc ?_ _)); refine blk_put (cs := #[.int .u16 t270, .int .u8 t271, .int .u8 0, .int .u8 0, .int .u8 0]) ?_ 2 _ rfl; (with_reducible repeat (first | refine blk_drewN ?_ _ | refine blk_drew ?_ | refine blk_alloc ?_ _)); refine blk_put (cs := #[.int .u16 t270, .int .u8 0, .int .u8 0, .int .u8 0, .int .u8 0]) ?_ 1 _ rfl; (with_reducible repeat (first | refine blk_drewN ?_ _ | refine blk_drew ?_ | refine blk_alloc ?_ _)); refine blk_put (cs := #[.int .u16 0, .int .u8 0, .int .u8 0, .int .u8 0, .int .u8 0]) ?_ 0 _ rfl; (with_reducible repeat (first | refine blk_drewN ?_ _ | refine blk_drew ?_ | refine blk_alloc ?_ _)); exact BK276.out) hb); have n5_ := Aside0.mk (below_step (by repeat (first | (with_reducible first | exact HB.out | apply below_alloc | apply pw_below_drewN | apply below_drew1 | refine below_set ?_ GE238.out | refine below_set ?_ GE252.out | refine below_set ?_ GE258.out | refine below_set ?_ GE264.out | refine below_set ?_ GE276.out) | exact HB.out)) hb); clear BK238; clear BK252; clear BK258; clear BK264; clear BK276; clear HB; have BK238 := n0_; have BK252 := n1_; have BK258 := n2_; have BK264 := n3_; have BK276 := n4_; have HB := n5_; clear n0_ n1_ n2_ n3_ n4_ n5_; (try clear hb); (try clear hb2); (try clear hk); (try clear hi)) | ((with_reducible refine gate_dst (N := 17) rfl ?_); refine box_event ?hg (N := 17) ?hd (cs := #[.int .u16 0, .int .u8 0, .int .u8 0, .int .u8 0, .int .u8 0]) (t := 24) ?hr ?_; (case hd => rfl); (case hg => rfl); (case hr => first | (go_simp; done) | (go_simp; rfl)); intro gb283 hg w110 hbox hb; have n0_ := Aside0.mk (blk_below (g := gb238) (o := .cells #[.int .u16 x239000_1, .int .u8 x239001_1, .int .u8 x239002_1, .int .u8 x239003_1, .int .u8 x239004_1] 24 (0, 0)) (by (with_reducible repeat (first | refine blk_drewN ?_ _ | refine blk_drew ?_ | refine blk_alloc ?_ _)); exact BK238.out) hb); have n1_ := Aside0.mk (blk_below (g := gb252) (o := .cells #[.int .u16 t246, .int .u8 t247, .int .u8 t248, .int .u8 t249, .int .u8 t250] 24 (0, 0)) (by (with_reducible repeat (first | refine blk_drewN ?_ _ | refine blk_drew ?_ | refine blk_alloc ?_ _)); exact BK252.out) hb); have n2_ := Aside0.mk (blk_below (g := gb258) (o := .cells #[.int .u16 t253, .int .u8 t254, .int .u8 t255, .int .u8 t256, .int .u8 t257] 24 (0, 0)) (by (with_reducible repeat (first | refine blk_drewN ?_ _ | refine blk_drew ?_ | refine blk_alloc ?_ _)); exact BK258.out) hb); have n3_ := Aside0.mk (blk_below (g := gb264) (o := .cells #[.int .u16 t259, .int .u8 t260, .int .u8 t261, .int .u8 t262, .int .u8 t263] 24 (0, 0)) (by (with_reducible repeat (first | refine blk_drewN ?_ _ | refine blk_drew ?_ | refine blk_alloc ?_ _)); exact BK264.out) hb); have n4_ := Aside0.mk (blk_below (g := gb276) (o := .cells #[.int .u16 t270, .int .u8 t271, .int .u8 t272, .int .u8 t273, .int .u8 t274] 24 (0, 0)) (by (with_reducible repeat (first | refine blk_drewN ?_ _ | refine blk_drew ?_ | refine blk_alloc ?_ _)); exact BK276.out) hb); have n5_ := Aside0.mk (below_step (by repeat (first | (with_reducible first | exact HB.out | apply below_alloc | apply pw_below_drewN | apply below_drew1 | refine below_set ?_ GE238.out | refine below_set ?_ GE252.out | refine below_set ?_ GE258.out | refine below_set ?_ GE264.out | refine below_set ?_ GE276.out) | exact HB.out)) hb); have n6_ := Aside0.mk (hbox); have n7_ := Aside0.mk ((by rw [hg]; exact (below_size (by repeat (first | (with_reducible first | exact HB.out | apply below_alloc | apply pw_below_drewN | apply below_drew1 | refine below_set ?_ GE238.out | refine below_set ?_ GE252.out | refine below_set ?_ GE258.out | refine below_set ?_ GE264.out | refine below_set ?_ GE276.out) | exact HB.out))) : w.heap.size ≤ gb283)); have n8_ := Aside0.mk ((by rw [hg]; exact (below_size (by repeat (first | (with_reducible first | exact HB.out | apply below_alloc | apply pw_below_drewN | apply below_drew1 | refine below_set ?_ GE238.out | refine below_set ?_ GE252.out | refine below_set ?_ GE258.out | refine below_set ?_ GE264.out | refine below_set ?_ GE276.out) | exact HB.out))) : w.heap.size ≤ gb283)); have n9_ := Aside0.mk ((by rw [hg]; exact Nat.ne_of_lt (blk_lt (g := gb238) (o := .cells #[.int .u16 x239000_1, .int .u8 x239001_1, .int .u8 x239002_1, .int .u8 x239003_1, .int .u8 x239004_1] 24 (0, 0)) (by (with_reducible repeat (first | refine blk_drewN ?_ _ | refine blk_drew ?_ | refine blk_alloc ?_ _)); exact BK238.out)) : gb238 ≠ gb283)); have n10_ := Aside0.mk ((by rw [hg]; exact Nat.ne_of_gt (blk_lt (g := gb238) (o := .cells #[.int .u16 x239000_1, .int .u8 x239001_1, .int .u8 x239002_1, .int .u8 x239003_1, .int .u8 x239004_1] 24 (0, 0)) (by (with_reducible repeat (first | refine blk_drewN ?_ _ | refine blk_drew ?_ | refine blk_alloc ?_ _)); exact BK238.out)) : gb283 ≠ gb238)); have n11_ := Aside0.mk ((by rw [hg]; exact Nat.ne_of_lt (blk_lt (g := gb252) (o := .cells #[.int .u16 t246, .int .u8 t247, .int .u8 t248, .int .u8 t249, .int .u8 t250] 24 (0, 0)) (by (with_reducible repeat (first | refine blk_drewN ?_ _ | refine blk_drew ?_ | refine blk_alloc ?_ _)); exact BK252.out)) : gb252 ≠ gb283)); have n12_ := Aside0.mk ((by rw [hg]; exact Nat.ne_of_gt (blk_lt (g := gb252) (o := .cells #[.int .u16 t246, .int .u8 t247, .int .u8 t248, .int .u8 t249, .int .u8 t250] 24 (0, 0)) (by (with_reducible repeat (first | refine blk_drewN ?_ _ | refine blk_drew ?_ | refine blk_alloc ?_ _)); exact BK252.out)) : gb283 ≠ gb252)); have n13_ := Aside0.mk ((by rw [hg]; exact Nat.ne_of_lt (blk_lt (g := gb258) (o := .cells #[.int .u16 t253, .int .u8 t254, .int .u8 t255, .int .u8 t256, .int .u8 t257] 24 (0, 0)) (by (with_reducible repeat (first | refine blk_drewN ?_ _ | refine blk_drew ?_ | refine blk_alloc ?_ _)); exact BK258.out)) : gb258 ≠ gb283)); have n14_ := Aside0.mk ((by rw [hg]; exact Nat.ne_of_gt (blk_lt (g := gb258) (o := .cells #[.int .u16 t253, .int .u8 t254, .int .u8 t255, .int .u8 t256, .int .u8 t257] 24 (0, 0)) (by (with_reducible repeat (first | refine blk_drewN ?_ _ | refine blk_drew ?_ | refine blk_alloc ?_ _)); exact BK258.out)) : gb283 ≠ gb258)); have n15_ := Aside0.mk ((by rw [hg]; exact Nat.ne_of_lt (blk_lt (g := gb264) (o := .cells #[.int .u16 t259, .int .u8 t260, .int .u8 t261, .int .u8 t262, .int .u8 t263] 24 (0, 0)) (by (with_reducible repeat (first | refine blk_drewN ?_ _ | refine blk_drew ?_ | refine blk_alloc ?_ _)); exact BK264.out)) : gb264 ≠ gb283)); have n16_ := Aside0.mk ((by rw [hg]; exact Nat.ne_of_gt (blk_lt (g := gb264) (o := .cells #[.int .u16 t259, .int .u8 t260, .int .u8 t261, .int .u8 t262, .int .u8 t263] 24 (0, 0)) (by (with_reducible repeat (first | refine blk_drewN ?_ _ | refine blk_drew ?_ | refine blk_alloc ?_ _)); exact BK264.out)) : gb283 ≠ gb264)); have n17_ := Aside0.mk ((by rw [hg]; exact Nat.ne_of_lt (blk_lt (g := gb276) (o := .cells #[.int .u16 t270, .int .u8 t271, .int .u8 t272, .int .u8 t273, .int .u8 t274] 24 (0, 0)) (by (with_reducible repeat (first | refine blk_drewN ?_ _ | refine blk_drew ?_ | refine blk_alloc ?_ _)); exact BK276.out)) : gb276 ≠ gb283)); have n18_ := Aside0.mk ((by rw [hg]; exact Nat.ne_of_gt (blk_lt (g := gb276) (o := .cells #[.int .u16 t270, .int .u8 t271, .int .u8 t272, .int .u8 t273, .int .u8 t274] 24 (0, 0)) (by (with_reducible repeat (first | refine blk_drewN ?_ _ | refine blk_drew ?_ | refine blk_alloc ?_ _)); exact BK276.out)) : gb283 ≠ gb276)); clear BK238; clear BK252; clear BK258; clear BK264; clear BK276; clear HB; have BK238 := n0_; have BK252 := n1_; have BK258 := n2_; have BK264 := n3_; have BK276 := n4_; have HB := n5_; have BK283 := n6_; have GW283 := n7_; have GE283 := n8_; have NB238_283 := n9_; have NB283_238 := n10_; have NB252_283 := n11_; have NB283_252 := n12_; have NB258_283 := n13_; have NB283_258 := n14_; have NB264_283 := n15_; have NB283_264 := n16_; have NB276_283 := n17_; have NB283_276 := n18_; clear n0_ n1_ n2_ n3_ n4_ n5_ n6_ n7_ n8_ n9_ n10_ n11_ n12_ n13_ n14_ n15_ n16_ n17_ n18_; clear hb hbox hg; have hnb111 := NB283_238.out; have hnc111 := NB238_283.out; have hnb112 := NB283_252.out; have hnc112 := NB252_283.out; have hnb113 := NB283_258.out; have hnc113 := NB258_283.out; have hnb114 := NB283_264.out; have hnc114 := NB264_283.out; have hnb115 := NB283_276.out; have hnc115 := NB276_283.out; have hcz116_0 : w110.cell? ⟨gb283, 0, none⟩ = some (.int .u16 0) := (blk_cell BK283.out 0).trans rfl; have hcz116_1 : w110.cell? ⟨gb283, 1, none⟩ = some (.int .u8 0) := (blk_cell BK283.out 1).trans rfl; have hcz116_2 : w110.cell? ⟨gb283, 2, none⟩ = some (.int .u8 0) := (blk_cell BK283.out 2).trans rfl; have hcz116_3 : w110.cell? ⟨gb283, 3, none⟩ = some (.int .u8 0) := (blk_cell BK283.out 3).trans rfl; have hcz116_4 : w110.cell? ⟨gb283, 4, none⟩ = some (.int .u8 0) := (blk_cell BK283.out 4).trans rfl; have hfz116_0 := blk_frozen BK283.out 0; have hfz116_1 := blk_frozen BK283.out 1; have hfz116_2 := blk_frozen BK283.out 2; have hfz116_3 := blk_frozen BK283.out 3; have hfz116_4 := blk_frozen BK283.out 4; have hcz117_0 : w110.cell? ⟨gb252, 0, none⟩ = some (.int .u16 t246) := (blk_cell BK252.out 0).trans rfl; have hcz117_1 : w110.cell? ⟨gb252, 1, none⟩ = some (.int .u8 t247) := (blk_cell BK252.out 1).trans rfl; have hcz117_2 : w110.cell? ⟨gb252, 2, none⟩ = some (.int .u8 t248) := (blk_cell BK252.out 2).trans rfl; have hcz117_3 : w110.cell? ⟨gb252, 3, none⟩ = some (.int .u8 t249) := (blk_cell BK252.out 3).trans rfl; have hcz117_4 : w110.cell? ⟨gb252, 4, none⟩ = some (.int .u8 t250) := (blk_cell BK252.out 4).trans rfl; have hfz117_0 := blk_frozen BK252.out 0; have hfz117_1 := blk_frozen BK252.out 1; have hfz117_2 := blk_frozen BK252.out 2; have hfz117_3 := blk_frozen BK252.out 3; have hfz117_4 := blk_frozen BK252.out 4; have hcz118_0 : w110.cell? ⟨gb258, 0, none⟩ = some (.int .u16 t253) := (blk_cell BK258.out 0).trans rfl; have hcz118_1 : w110.cell? ⟨gb258, 1, none⟩ = some (.int .u8 t254) := (blk_cell BK258.out 1).trans rfl; have hcz118_2 : w110.cell? ⟨gb258, 2, none⟩ = some (.int .u8 t255) := (blk_cell BK258.out 2).trans rfl; have hcz118_3 : w110.cell? ⟨gb258, 3, none⟩ = some (.int .u8 t256) := (blk_cell BK258.out 3).trans rfl; have hcz118_4 : w110.cell? ⟨gb258, 4, none⟩ = some (.int .u8 t257) := (blk_cell BK258.out 4).trans rfl; have hfz118_0 := blk_frozen BK258.out 0; have hfz118_1 := blk_frozen BK258.out 1; have hfz118_2 := blk_frozen BK258.out 2; have hfz118_3 := blk_frozen BK258.out 3; have hfz118_4 := blk_frozen BK258.out 4; have hcz119_0 : w110.cell? ⟨gb264, 0, none⟩ = some (.int .u16 t259) := (blk_cell BK264.out 0).trans rfl; have hcz119_1 : w110.cell? ⟨gb264, 1, none⟩ = some (.int .u8 t260) := (blk_cell BK264.out 1).trans rfl; have hcz119_2 : w110.cell? ⟨gb264, 2, none⟩ = some (.int .u8 t261) := (blk_cell BK264.out 2).trans rfl; have hcz119_3 : w110.cell? ⟨gb264, 3, none⟩ = some (.int .u8 t262) := (blk_cell BK264.out 3).trans rfl; have hcz119_4 : w110.cell? ⟨gb264, 4, none⟩ = some (.int .u8 t263) := (blk_cell BK264.out 4).trans rfl; have hfz119_0 := blk_frozen BK264.out 0; have hfz119_1 := blk_frozen BK264.out 1; have hfz119_2 := blk_frozen BK264.out 2; have hfz119_3 := blk_frozen BK264.out 3; have hfz119_4 := blk_frozen BK264.out 4; have hcz120_0 : w110.cell? ⟨gb276, 0, none⟩ = some (.int .u16 t270) := (blk_cell BK276.out 0).trans rfl; have hcz120_1 : w110.cell? ⟨gb276, 1, none⟩ = some (.int .u8 t271) := (blk_cell BK276.out 1).trans rfl; have hcz120_2 : w110.cell? ⟨gb276, 2, none⟩ = some (.int .u8 t272) := (blk_cell BK276.out 2).trans rfl; have hcz120_3 : w110.cell? ⟨gb276, 3, none⟩ = some (.int .u8 t273) := (blk_cell BK276.out 3).trans rfl; have hcz120_4 : w110.cell? ⟨gb276, 4, none⟩ = some (.int .u8 t274) := (blk_cell BK276.out 4).trans rfl; have hfz120_0 := blk_frozen BK276.out 0; have hfz120_1 := blk_frozen BK276.out 1; have hfz120_2 := blk_frozen BK276.out 2; have hfz120_3 := blk_frozen BK276.out 3; have hfz120_4 := blk_frozen BK276.out 4))
                                    go_ret
                                    exact ⟨by first | rfl | (simp [errW_none, errW_some] <;> rfl) | (simp [*, errW_none, errW_some] <;> rfl), by repeat (first | (with_reducible first | exact HB.out | apply below_alloc | apply pw_below_drewN | apply below_drew1 | refine below_set ?_ GE238.out | refine below_set ?_ GE252.out | refine below_set ?_ GE258.out | refine below_set ?_ GE264.out | refine below_set ?_ GE276.out | refine below_set ?_ GE283.out) | exact HB.out)⟩
                                  · rw [if_neg c81] at H
                                    have c81b0 : (t274 == 0) = false := beq_eq_false_iff_ne.mpr c81
                                    have c81b1 : (t274 != 0) = true := bne_iff_ne.mpr c81
                                    exact absurd ((Option.some.inj H).trans HT.out) (by simp)
                                · rw [if_neg c80] at H
                                  have c80b0 : (t271 == a2) = false := beq_eq_false_iff_ne.mpr c80
                                  have c80b1 : (t271 != a2) = true := bne_iff_ne.mpr c80
                                  exact absurd ((Option.some.inj H).trans HT.out) (by simp)
                            · rw [if_neg c40] at H
                              have c40b0 : (t261 == a2) = false := beq_eq_false_iff_ne.mpr c40
                              have c40b1 : (t261 != a2) = true := bne_iff_ne.mpr c40
                              exact absurd ((Option.some.inj H).trans HT.out) (by simp)
                          · rw [if_neg c39] at H
                            have c39b0 : (t260 == a2) = false := beq_eq_false_iff_ne.mpr c39
                            have c39b1 : (t260 != a2) = true := bne_iff_ne.mpr c39
                            exact absurd ((Option.some.inj H).trans HT.out) (by simp)
                        · rw [if_neg c38] at H
                          have c38b0 : (t253 == t246 && (t254 == t247 && (t255 == t248 && (t256 == t249 && (t257 == t250))))) = false := by simpa using c38
                          (try (have c38b1 : decide (t253 = t246 && (t254 == t247 && (t255 == t248 && (t256 == t249 && (t257 == t250))))) = false := by simpa using c38))
                          (try (have c38b2 : (t253 == t246 && (t254 == t247 && (t255 == t248 && (t256 == t249 && (t257 == t250))))) = false := by simpa using c38))
                          (try (have c38b3 : ¬ (t253 = t246 && (t254 == t247 && (t255 == t248 && (t256 == t249 && (t257 == t250))))) := by simpa using c38))
                          clear c38
                          exact absurd ((Option.some.inj H).trans HT.out) (by simp)
                      · rw [if_neg c37] at H
                        have c37b0 : (t247 == a1) = false := beq_eq_false_iff_ne.mpr c37
                        have c37b1 : (t247 != a1) = true := bne_iff_ne.mpr c37
                        exact absurd ((Option.some.inj H).trans HT.out) (by simp)
                    · replace c36 := Bool.eq_false_iff.mpr c36
                      subst c36
                      have H1 : (some false) = some r := by rw [if_neg (show ¬ (false = true) by decide)] at H; exact H
                      clear H
                      have H := H1
                      clear H1
                      exact absurd ((Option.some.inj H).trans HT.out) (by simp)
                  · replace c35 := Bool.eq_false_iff.mpr c35
                    subst c35
                    have H1 : (some false) = some r := by rw [if_neg (show ¬ (false = true) by decide)] at H; exact H
                    clear H
                    have H := H1
                    clear H1
                    exact absurd ((Option.some.inj H).trans HT.out) (by simp)

end Go.Proofs.Ytjfpbdecklkldaa.G
