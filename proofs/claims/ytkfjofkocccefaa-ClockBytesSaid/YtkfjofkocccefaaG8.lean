/- Written by a program of this session, after the kit's print: Go functions as Lean functions, each with the proof that the Go text comes to it. -/
import Derived.Test.YtkfjofkocccefaaG0
import Derived.Test.YtkfjofkocccefaaG6
import Derived.Test.YtkfjofkocccefaaG7
namespace Go.Proofs.Ytkfjofkocccefaa.G
open Go.RowKit Go.Proofs.YtkfjofkocccefaaW.PrintWords Go.Proofs.YtkfjofkocccefaaW.PrintLast Go.Proofs.YtkfjofkocccefaaW.PrintMore
attribute [local go_sem] max2_int min2_int max_two min_two max_three min_three max_four min_four   -- for this text's walks alone
set_option linter.unusedVariables false
set_option linter.unusedSimpArgs false

/-! ### whirligigref09_Tick: function 14 -/
mutual
def whirligigref09_Tick.j0 : Nat → Int → Int → Int → Int → Bool → Bool → Int → Int → Int → Int → Bool → Bool → Option (Int × Int × Int × Int × Bool × Bool)
  | 0, _, _, _, _, _, _, _, _, _, _, _, _ => none
  | k + 1, x141000, x141001, x141002, x141003, x141004, x141005, x142000, x142001, x142002, x142003, x142004, x142005 => if x141000 = 59 then (whirligigref09_Tick.j1 k (x141001 == 59) x141000 x141001 x141002 x141003 x141004 x141005 x142000 x142001 x142002 x142003 x142004 x142005) else (whirligigref09_Tick.j1 k false x141000 x141001 x141002 x141003 x141004 x141005 x142000 x142001 x142002 x142003 x142004 x142005)
def whirligigref09_Tick.j1 : Nat → Bool → Int → Int → Int → Int → Bool → Bool → Int → Int → Int → Int → Bool → Bool → Option (Int × Int × Int × Int × Bool × Bool)
  | 0, _, _, _, _, _, _, _, _, _, _, _, _, _ => none
  | k + 1, x29, x141000, x141001, x141002, x141003, x141004, x141005, x142000, x142001, x142002, x142003, x142004, x142005 => if x29 = true then ((whirligigref09_on.f x141002 23 32).bind fun t144 => (whirligigref09_Tick.j2 k x141000 x141001 x141002 x141003 x141004 x141005 x142000 x142001 t144 x142003 x142004 x142005)) else (whirligigref09_Tick.j2 k x141000 x141001 x141002 x141003 x141004 x141005 x142000 x142001 x142002 x142003 x142004 x142005)
def whirligigref09_Tick.j2 : Nat → Int → Int → Int → Int → Bool → Bool → Int → Int → Int → Int → Bool → Bool → Option (Int × Int × Int × Int × Bool × Bool)
  | 0, _, _, _, _, _, _, _, _, _, _, _, _ => none
  | k + 1, x141000, x141001, x141002, x141003, x141004, x141005, x142000, x142001, x142002, x142003, x142004, x142005 => if x141000 = 59 then (if x141001 = 59 then (whirligigref09_Tick.j3 k (x141002 == 23) x141000 x141001 x141002 x141003 x141004 x141005 x142000 x142001 x142002 x142003 x142004 x142005) else (whirligigref09_Tick.j3 k false x141000 x141001 x141002 x141003 x141004 x141005 x142000 x142001 x142002 x142003 x142004 x142005)) else (whirligigref09_Tick.j3 k false x141000 x141001 x141002 x141003 x141004 x141005 x142000 x142001 x142002 x142003 x142004 x142005)
def whirligigref09_Tick.j3 : Nat → Bool → Int → Int → Int → Int → Bool → Bool → Int → Int → Int → Int → Bool → Bool → Option (Int × Int × Int × Int × Bool × Bool)
  | 0, _, _, _, _, _, _, _, _, _, _, _, _, _ => none
  | k + 1, x46, x141000, x141001, x141002, x141003, x141004, x141005, x142000, x142001, x142002, x142003, x142004, x142005 => if x46 = true then (if x141003 = 511 then (some (x142000, x142001, x142002, 0, x142004, true)) else (some (x142000, x142001, x142002, IntKind.u16.wrap (x141003 + 1), x142004, x142005))) else (some (x142000, x142001, x142002, x142003, x142004, x142005))
end
def whirligigref09_Tick.f (k : Nat) (a0_0 : Int) (a0_1 : Int) (a0_2 : Int) (a0_3 : Int) (a0_4 : Bool) (a0_5 : Bool) : Option (Int × Int × Int × Int × Bool × Bool) := (whirligigref09_Norm.f a0_0 a0_1 a0_2 a0_3 a0_4 a0_5).bind fun bt134 => (if bt134.2.2.2.2.1 = true then (some (bt134.1, bt134.2.1, bt134.2.2.1, bt134.2.2.2.1, bt134.2.2.2.2.1, bt134.2.2.2.2.2)) else ((whirligigref09_on.f bt134.1 59 64).bind fun t142 => (if bt134.1 = 59 then ((whirligigref09_on.f bt134.2.1 59 64).bind fun t143 => (whirligigref09_Tick.j0 k bt134.1 bt134.2.1 bt134.2.2.1 bt134.2.2.2.1 bt134.2.2.2.2.1 bt134.2.2.2.2.2 t142 t143 bt134.2.2.1 bt134.2.2.2.1 bt134.2.2.2.2.1 bt134.2.2.2.2.2)) else (whirligigref09_Tick.j0 k bt134.1 bt134.2.1 bt134.2.2.1 bt134.2.2.2.1 bt134.2.2.2.2.1 bt134.2.2.2.2.2 t142 bt134.2.1 bt134.2.2.1 bt134.2.2.2.1 bt134.2.2.2.2.1 bt134.2.2.2.2.2))))
theorem whirligigref09_Tick.mono_l : ∀ k, (∀ y0 y1 y2 y3 y4 y5 y6 y7 y8 y9 y10 y11, LeO (whirligigref09_Tick.j0 k y0 y1 y2 y3 y4 y5 y6 y7 y8 y9 y10 y11) (whirligigref09_Tick.j0 (k + 1) y0 y1 y2 y3 y4 y5 y6 y7 y8 y9 y10 y11)) ∧ (∀ y0 y1 y2 y3 y4 y5 y6 y7 y8 y9 y10 y11 y12, LeO (whirligigref09_Tick.j1 k y0 y1 y2 y3 y4 y5 y6 y7 y8 y9 y10 y11 y12) (whirligigref09_Tick.j1 (k + 1) y0 y1 y2 y3 y4 y5 y6 y7 y8 y9 y10 y11 y12)) ∧ (∀ y0 y1 y2 y3 y4 y5 y6 y7 y8 y9 y10 y11, LeO (whirligigref09_Tick.j2 k y0 y1 y2 y3 y4 y5 y6 y7 y8 y9 y10 y11) (whirligigref09_Tick.j2 (k + 1) y0 y1 y2 y3 y4 y5 y6 y7 y8 y9 y10 y11)) ∧ (∀ y0 y1 y2 y3 y4 y5 y6 y7 y8 y9 y10 y11 y12, LeO (whirligigref09_Tick.j3 k y0 y1 y2 y3 y4 y5 y6 y7 y8 y9 y10 y11 y12) (whirligigref09_Tick.j3 (k + 1) y0 y1 y2 y3 y4 y5 y6 y7 y8 y9 y10 y11 y12))
  | 0 => ⟨fun _ _ _ _ _ _ _ _ _ _ _ _ r h => by simp [whirligigref09_Tick.j0] at h, fun _ _ _ _ _ _ _ _ _ _ _ _ _ r h => by simp [whirligigref09_Tick.j1] at h, fun _ _ _ _ _ _ _ _ _ _ _ _ r h => by simp [whirligigref09_Tick.j2] at h, fun _ _ _ _ _ _ _ _ _ _ _ _ _ r h => by simp [whirligigref09_Tick.j3] at h⟩
  | k + 1 => by
    obtain ⟨ih0, ih1, ih2, ih3⟩ := whirligigref09_Tick.mono_l k
    refine ⟨?_, ?_, ?_, ?_⟩
    · intro y0 y1 y2 y3 y4 y5 y6 y7 y8 y9 y10 y11
      unfold whirligigref09_Tick.j0
      repeat' first
      | (with_reducible exact ih0 _ _ _ _ _ _ _ _ _ _ _ _)
      | (with_reducible exact ih1 _ _ _ _ _ _ _ _ _ _ _ _ _)
      | (with_reducible exact ih2 _ _ _ _ _ _ _ _ _ _ _ _)
      | (with_reducible exact ih3 _ _ _ _ _ _ _ _ _ _ _ _ _)
      | (with_reducible exact LeO.refl _)
      | (with_reducible exact LeO.none _)
      | (with_reducible refine LeO.ite ?_ ?_)
      | (with_reducible refine LeO.bind ?_ (fun _ => ?_))
      | exact ih0 _ _ _ _ _ _ _ _ _ _ _ _
      | exact ih1 _ _ _ _ _ _ _ _ _ _ _ _ _
      | exact ih2 _ _ _ _ _ _ _ _ _ _ _ _
      | exact ih3 _ _ _ _ _ _ _ _ _ _ _ _ _
      | exact LeO.none _
      | refine LeO.ite ?_ ?_
      | refine LeO.bind ?_ (fun _ => ?_)
    · intro y0 y1 y2 y3 y4 y5 y6 y7 y8 y9 y10 y11 y12
      unfold whirligigref09_Tick.j1
      repeat' first
      | (with_reducible exact ih0 _ _ _ _ _ _ _ _ _ _ _ _)
      | (with_reducible exact ih1 _ _ _ _ _ _ _ _ _ _ _ _ _)
      | (with_reducible exact ih2 _ _ _ _ _ _ _ _ _ _ _ _)
      | (with_reducible exact ih3 _ _ _ _ _ _ _ _ _ _ _ _ _)
      | (with_reducible exact LeO.refl _)
      | (with_reducible exact LeO.none _)
      | (with_reducible refine LeO.ite ?_ ?_)
      | (with_reducible refine LeO.bind ?_ (fun _ => ?_))
      | exact ih0 _ _ _ _ _ _ _ _ _ _ _ _
      | exact ih1 _ _ _ _ _ _ _ _ _ _ _ _ _
      | exact ih2 _ _ _ _ _ _ _ _ _ _ _ _
      | exact ih3 _ _ _ _ _ _ _ _ _ _ _ _ _
      | exact LeO.none _
      | refine LeO.ite ?_ ?_
      | refine LeO.bind ?_ (fun _ => ?_)
    · intro y0 y1 y2 y3 y4 y5 y6 y7 y8 y9 y10 y11
      unfold whirligigref09_Tick.j2
      repeat' first
      | (with_reducible exact ih0 _ _ _ _ _ _ _ _ _ _ _ _)
      | (with_reducible exact ih1 _ _ _ _ _ _ _ _ _ _ _ _ _)
      | (with_reducible exact ih2 _ _ _ _ _ _ _ _ _ _ _ _)
      | (with_reducible exact ih3 _ _ _ _ _ _ _ _ _ _ _ _ _)
      | (with_reducible exact LeO.refl _)
      | (with_reducible exact LeO.none _)
      | (with_reducible refine LeO.ite ?_ ?_)
      | (with_reducible refine LeO.bind ?_ (fun _ => ?_))
      | exact ih0 _ _ _ _ _ _ _ _ _ _ _ _
      | exact ih1 _ _ _ _ _ _ _ _ _ _ _ _ _
      | exact ih2 _ _ _ _ _ _ _ _ _ _ _ _
      | exact ih3 _ _ _ _ _ _ _ _ _ _ _ _ _
      | exact LeO.none _
      | refine LeO.ite ?_ ?_
      | refine LeO.bind ?_ (fun _ => ?_)
    · intro y0 y1 y2 y3 y4 y5 y6 y7 y8 y9 y10 y11 y12
      unfold whirligigref09_Tick.j3
      repeat' first
      | (with_reducible exact ih0 _ _ _ _ _ _ _ _ _ _ _ _)
      | (with_reducible exact ih1 _ _ _ _ _ _ _ _ _ _ _ _ _)
      | (with_reducible exact ih2 _ _ _ _ _ _ _ _ _ _ _ _)
      | (with_reducible exact ih3 _ _ _ _ _ _ _ _ _ _ _ _ _)
      | (with_reducible exact LeO.refl _)
      | (with_reducible exact LeO.none _)
      | (with_reducible refine LeO.ite ?_ ?_)
      | (with_reducible refine LeO.bind ?_ (fun _ => ?_))
      | exact ih0 _ _ _ _ _ _ _ _ _ _ _ _
      | exact ih1 _ _ _ _ _ _ _ _ _ _ _ _ _
      | exact ih2 _ _ _ _ _ _ _ _ _ _ _ _
      | exact ih3 _ _ _ _ _ _ _ _ _ _ _ _ _
      | exact LeO.none _
      | refine LeO.ite ?_ ?_
      | refine LeO.bind ?_ (fun _ => ?_)
theorem whirligigref09_Tick.mono : ∀ a0 a1 a2 a3 a4 a5 k, LeO (whirligigref09_Tick.f k a0 a1 a2 a3 a4 a5) (whirligigref09_Tick.f (k + 1) a0 a1 a2 a3 a4 a5) := by
  intro a0 a1 a2 a3 a4 a5 k
  obtain ⟨ih0, ih1, ih2, ih3⟩ := whirligigref09_Tick.mono_l k
  unfold whirligigref09_Tick.f
  repeat' first
      | (with_reducible exact ih0 _ _ _ _ _ _ _ _ _ _ _ _)
      | (with_reducible exact ih1 _ _ _ _ _ _ _ _ _ _ _ _ _)
      | (with_reducible exact ih2 _ _ _ _ _ _ _ _ _ _ _ _)
      | (with_reducible exact ih3 _ _ _ _ _ _ _ _ _ _ _ _ _)
      | (with_reducible exact LeO.refl _)
      | (with_reducible exact LeO.none _)
      | (with_reducible refine LeO.ite ?_ ?_)
      | (with_reducible refine LeO.bind ?_ (fun _ => ?_))
      | exact ih0 _ _ _ _ _ _ _ _ _ _ _ _
      | exact ih1 _ _ _ _ _ _ _ _ _ _ _ _ _
      | exact ih2 _ _ _ _ _ _ _ _ _ _ _ _
      | exact ih3 _ _ _ _ _ _ _ _ _ _ _ _ _
      | exact LeO.none _
      | refine LeO.ite ?_ ?_
      | refine LeO.bind ?_ (fun _ => ?_)
set_option maxHeartbeats 8000000 in
set_option maxRecDepth 100000 in
theorem whirligigref09_Tick.calls (k : Nat) (a0_0 : Int) (a0_1 : Int) (a0_2 : Int) (a0_3 : Int) (a0_4 : Bool) (a0_5 : Bool) (r1 : Int) (r2 : Int) (r3 : Int) (r4 : Int) (r5 : Bool) (r6 : Bool) (w : World) (h : whirligigref09_Tick.f k a0_0 a0_1 a0_2 a0_3 a0_4 a0_5 = some (r1, r2, r3, r4, r5, r6)) :
    Calls Try.prog 14 #[.agg #[.int .u8 a0_0, .int .u8 a0_1, .int .u8 a0_2, .int .u16 a0_3, .bool a0_4, .bool a0_5]] w fun e w' => e = .returned (.agg #[.int .u8 r1, .int .u8 r2, .int .u8 r3, .int .u16 r4, .bool r5, .bool r6]) ∧ Below w.heap.size w w' := by
  have hu24 := Try.underlying24
  have HB := Aside0.mk (Below.refl w.heap.size w)
  have H : ((whirligigref09_Norm.f a0_0 a0_1 a0_2 a0_3 a0_4 a0_5).bind fun bt134 => (if bt134.2.2.2.2.1 = true then (some (bt134.1, bt134.2.1, bt134.2.2.1, bt134.2.2.2.1, bt134.2.2.2.2.1, bt134.2.2.2.2.2)) else ((whirligigref09_on.f bt134.1 59 64).bind fun t142 => (if bt134.1 = 59 then ((whirligigref09_on.f bt134.2.1 59 64).bind fun t143 => (whirligigref09_Tick.j0 k bt134.1 bt134.2.1 bt134.2.2.1 bt134.2.2.2.1 bt134.2.2.2.2.1 bt134.2.2.2.2.2 t142 t143 bt134.2.2.1 bt134.2.2.2.1 bt134.2.2.2.2.1 bt134.2.2.2.2.2)) else (whirligigref09_Tick.j0 k bt134.1 bt134.2.1 bt134.2.2.1 bt134.2.2.2.1 bt134.2.2.2.2.1 bt134.2.2.2.2.2 t142 bt134.2.1 bt134.2.2.1 bt134.2.2.2.1 bt134.2.2.2.2.1 bt134.2.2.2.2.2))))) = some (r1, r2, r3, r4, r5, r6) := h
  clear h
  replace H := Option.bind_eq_some_iff.mp H
  obtain ⟨⟨t134, t135, t136, t137, t138, t139⟩, A20, H⟩ := H
  replace H : (if t138 = true then (some (t134, t135, t136, t137, t138, t139)) else ((whirligigref09_on.f t134 59 64).bind fun t142 => (if t134 = 59 then ((whirligigref09_on.f t135 59 64).bind fun t143 => (whirligigref09_Tick.j0 k t134 t135 t136 t137 t138 t139 t142 t143 t136 t137 t138 t139)) else (whirligigref09_Tick.j0 k t134 t135 t136 t137 t138 t139 t142 t135 t136 t137 t138 t139)))) = some (r1, r2, r3, r4, r5, r6) := H
  have A2 := Aside0.mk A20
  clear A20
  by_cases c3 : t138 = true
  · subst c3
    have H1 : (some (t134, t135, t136, t137, true, t139)) = some (r1, r2, r3, r4, r5, r6) := by rw [if_pos rfl] at H; exact H
    clear H
    have H := H1
    clear H1
    simp only [Option.some.injEq, Prod.mk.injEq] at H
    obtain ⟨rfl, rfl, rfl, rfl, rfl, rfl⟩ := H
    go_enter Try.func14, Try.ntmps14
    go_wp2_with (first | ((with_reducible refine gate_dst (N := 1) rfl ?_); refine box_event ?hg (N := 1) ?hd (cs := #[.int .u8 a0_0, .int .u8 a0_1, .int .u8 a0_2, .int .u16 a0_3, .bool a0_4, .bool a0_5]) (t := 24) ?hr ?_; (case hd => rfl); (case hg => rfl); (case hr => first | (go_simp; done) | (go_simp; rfl)); intro gb132 hg w4 hbox hb; have n0_ := Aside0.mk (below_step (by repeat (first | (with_reducible first | exact HB.out | apply below_alloc | apply pw_below_drewN | apply below_drew1) | exact HB.out)) hb); have n1_ := Aside0.mk (hbox); have n2_ := Aside0.mk ((by rw [hg]; exact (below_size (by repeat (first | (with_reducible first | exact HB.out | apply below_alloc | apply pw_below_drewN | apply below_drew1) | exact HB.out))) : w.heap.size ≤ gb132)); have n3_ := Aside0.mk ((by rw [hg]; exact (below_size (by repeat (first | (with_reducible first | exact HB.out | apply below_alloc | apply pw_below_drewN | apply below_drew1) | exact HB.out))) : w.heap.size ≤ gb132)); clear HB; have HB := n0_; have BK132 := n1_; have GW132 := n2_; have GE132 := n3_; clear n0_ n1_ n2_ n3_; clear hb hbox hg) | ((with_reducible refine gate_dst (N := 2) rfl ?_); refine box_event ?hg (N := 2) ?hd (cs := #[.int .u8 0, .int .u8 0, .int .u8 0, .int .u16 0, .bool false, .bool false]) (t := 24) ?hr ?_; (case hd => rfl); (case hg => rfl); (case hr => first | (go_simp; done) | (go_simp; rfl)); intro gb133 hg w5 hbox hb; have n0_ := Aside0.mk (blk_below (g := gb132) (o := .cells #[.int .u8 a0_0, .int .u8 a0_1, .int .u8 a0_2, .int .u16 a0_3, .bool a0_4, .bool a0_5] 24 (0, 0)) (by (with_reducible repeat (first | refine blk_drewN ?_ _ | refine blk_drew ?_ | refine blk_alloc ?_ _)); exact BK132.out) hb); have n1_ := Aside0.mk (below_step (by repeat (first | (with_reducible first | exact HB.out | apply below_alloc | apply pw_below_drewN | apply below_drew1 | refine below_set ?_ GE132.out) | exact HB.out)) hb); have n2_ := Aside0.mk (hbox); have n3_ := Aside0.mk ((by rw [hg]; exact (below_size (by repeat (first | (with_reducible first | exact HB.out | apply below_alloc | apply pw_below_drewN | apply below_drew1 | refine below_set ?_ GE132.out) | exact HB.out))) : w.heap.size ≤ gb133)); have n4_ := Aside0.mk ((by rw [hg]; exact (below_size (by repeat (first | (with_reducible first | exact HB.out | apply below_alloc | apply pw_below_drewN | apply below_drew1 | refine below_set ?_ GE132.out) | exact HB.out))) : w.heap.size ≤ gb133)); have n5_ := Aside0.mk ((by rw [hg]; exact Nat.ne_of_lt (blk_lt (g := gb132) (o := .cells #[.int .u8 a0_0, .int .u8 a0_1, .int .u8 a0_2, .int .u16 a0_3, .bool a0_4, .bool a0_5] 24 (0, 0)) (by (with_reducible repeat (first | refine blk_drewN ?_ _ | refine blk_drew ?_ | refine blk_alloc ?_ _)); exact BK132.out)) : gb132 ≠ gb133)); have n6_ := Aside0.mk ((by rw [hg]; exact Nat.ne_of_gt (blk_lt (g := gb132) (o := .cells #[.int .u8 a0_0, .int .u8 a0_1, .int .u8 a0_2, .int .u16 a0_3, .bool a0_4, .bool a0_5] 24 (0, 0)) (by (with_reducible repeat (first | refine blk_drewN ?_ _ | refine blk_drew ?_ | refine blk_alloc ?_ _)); exact BK132.out)) : gb133 ≠ gb132)); clear BK132; clear HB; have BK132 := n0_; have HB := n1_; have BK133 := n2_; have GW133 := n3_; have GE133 := n4_; have NB132_133 := n5_; have NB133_132 := n6_; clear n0_ n1_ n2_ n3_ n4_ n5_ n6_; clear hb hbox hg; have hnb6 := NB132_133.out; have hnc6 := NB133_132.out; have hcz7_0 : w5.cell? ⟨gb132, 0, none⟩ = some (.int .u8 a0_0) := (blk_cell BK132.out 0).trans rfl; have hcz7_1 : w5.cell? ⟨gb132, 1, none⟩ = some (.int .u8 a0_1) := (blk_cell BK132.out 1).trans rfl; have hcz7_2 : w5.cell? ⟨gb132, 2, none⟩ = some (.int .u8 a0_2) := (blk_cell BK132.out 2).trans rfl; have hcz7_3 : w5.cell? ⟨gb132, 3, none⟩ = some (.int .u16 a0_3) := (blk_cell BK132.out 3).trans rfl; have hcz7_4 : w5.cell? ⟨gb132, 4, none⟩ = some (.bool a0_4) := (blk_cell BK132.out 4).trans rfl; have hcz7_5 : w5.cell? ⟨gb132, 5, none⟩ = some (.bool a0_5) := (blk_cell BK132.out 5).trans rfl; have hfz7_0 := blk_frozen BK132.out 0; have hfz7_1 := blk_frozen BK132.out 1; have hfz7_2 := blk_frozen BK132.out 2; have hfz7_3 := blk_frozen BK132.out 3; have hfz7_4 := blk_frozen BK132.out 4; have hfz7_5 := blk_frozen BK132.out 5) | ((with_reducible refine gate_callee (f := 16) rfl ?_); refine goesL_ (some 6) rfl rfl Try.func16 (by kernel_rfl) rfl #[.agg #[.int .u8 a0_0, .int .u8 a0_1, .int .u8 a0_2, .int .u16 a0_3, .bool a0_4, .bool a0_5]] rfl (by (try simp only [List.map_toArray, List.map_cons, List.map_nil]); first | done | rfl | (simp only [List.length_drop, List.length_take]; rfl)) ?_; (with_reducible refine (whirligigref09_Norm.calls a0_0 a0_1 a0_2 a0_3 a0_4 a0_5 t134 t135 t136 t137 true t139 _ A2.out).mono ?_); rintro e w8 ⟨rfl, hb⟩; refine ⟨_, rfl, ?_⟩; have n0_ := Aside0.mk (blk_below (g := gb132) (o := .cells #[.int .u8 a0_0, .int .u8 a0_1, .int .u8 a0_2, .int .u16 a0_3, .bool a0_4, .bool a0_5] 24 (0, 0)) (by (with_reducible repeat (first | refine blk_drewN ?_ _ | refine blk_drew ?_ | refine blk_alloc ?_ _)); exact BK132.out) hb); have n1_ := Aside0.mk (blk_below (g := gb133) (o := .cells #[.int .u8 0, .int .u8 0, .int .u8 0, .int .u16 0, .bool false, .bool false] 24 (0, 0)) (by (with_reducible repeat (first | refine blk_drewN ?_ _ | refine blk_drew ?_ | refine blk_alloc ?_ _)); exact BK133.out) hb); have n2_ := Aside0.mk (below_step (by repeat (first | (with_reducible first | exact HB.out | apply below_alloc | apply pw_below_drewN | apply below_drew1 | refine below_set ?_ GE132.out | refine below_set ?_ GE133.out) | exact HB.out)) hb); clear BK132; clear BK133; clear HB; have BK132 := n0_; have BK133 := n1_; have HB := n2_; clear n0_ n1_ n2_; (try clear hb); (try clear hb2); (try clear hk); (try clear hi)) | ((with_reducible refine gate_dst (N := 3) rfl ?_); refine box_event ?hg (N := 3) ?hd (cs := #[.int .u8 0, .int .u8 0, .int .u8 0, .int .u16 0, .bool false, .bool false]) (t := 24) ?hr ?_; (case hd => rfl); (case hg => rfl); (case hr => first | (go_simp; done) | (go_simp; rfl)); intro gb140 hg w9 hbox hb; have n0_ := Aside0.mk (blk_below (g := gb132) (o := .cells #[.int .u8 a0_0, .int .u8 a0_1, .int .u8 a0_2, .int .u16 a0_3, .bool a0_4, .bool a0_5] 24 (0, 0)) (by (with_reducible repeat (first | refine blk_drewN ?_ _ | refine blk_drew ?_ | refine blk_alloc ?_ _)); exact BK132.out) hb); have n1_ := Aside0.mk (blk_below (g := gb133) (o := .cells #[.int .u8 0, .int .u8 0, .int .u8 0, .int .u16 0, .bool false, .bool false] 24 (0, 0)) (by (with_reducible repeat (first | refine blk_drewN ?_ _ | refine blk_drew ?_ | refine blk_alloc ?_ _)); exact BK133.out) hb); have n2_ := Aside0.mk (below_step (by repeat (first | (with_reducible first | exact HB.out | apply below_alloc | apply pw_below_drewN | apply below_drew1 | refine below_set ?_ GE132.out | refine below_set ?_ GE133.out) | exact HB.out)) hb); have n3_ := Aside0.mk (hbox); have n4_ := Aside0.mk ((by rw [hg]; exact (below_size (by repeat (first | (with_reducible first | exact HB.out | apply below_alloc | apply pw_below_drewN | apply below_drew1 | refine below_set ?_ GE132.out | refine below_set ?_ GE133.out) | exact HB.out))) : w.heap.size ≤ gb140)); have n5_ := Aside0.mk ((by rw [hg]; exact (below_size (by repeat (first | (with_reducible first | exact HB.out | apply below_alloc | apply pw_below_drewN | apply below_drew1 | refine below_set ?_ GE132.out | refine below_set ?_ GE133.out) | exact HB.out))) : w.heap.size ≤ gb140)); have n6_ := Aside0.mk ((by rw [hg]; exact Nat.ne_of_lt (blk_lt (g := gb132) (o := .cells #[.int .u8 a0_0, .int .u8 a0_1, .int .u8 a0_2, .int .u16 a0_3, .bool a0_4, .bool a0_5] 24 (0, 0)) (by (with_reducible repeat (first | refine blk_drewN ?_ _ | refine blk_drew ?_ | refine blk_alloc ?_ _)); exact BK132.out)) : gb132 ≠ gb140)); have n7_ := Aside0.mk ((by rw [hg]; exact Nat.ne_of_gt (blk_lt (g := gb132) (o := .cells #[.int .u8 a0_0, .int .u8 a0_1, .int .u8 a0_2, .int .u16 a0_3, .bool a0_4, .bool a0_5] 24 (0, 0)) (by (with_reducible repeat (first | refine blk_drewN ?_ _ | refine blk_drew ?_ | refine blk_alloc ?_ _)); exact BK132.out)) : gb140 ≠ gb132)); have n8_ := Aside0.mk ((by rw [hg]; exact Nat.ne_of_lt (blk_lt (g := gb133) (o := .cells #[.int .u8 0, .int .u8 0, .int .u8 0, .int .u16 0, .bool false, .bool false] 24 (0, 0)) (by (with_reducible repeat (first | refine blk_drewN ?_ _ | refine blk_drew ?_ | refine blk_alloc ?_ _)); exact BK133.out)) : gb133 ≠ gb140)); have n9_ := Aside0.mk ((by rw [hg]; exact Nat.ne_of_gt (blk_lt (g := gb133) (o := .cells #[.int .u8 0, .int .u8 0, .int .u8 0, .int .u16 0, .bool false, .bool false] 24 (0, 0)) (by (with_reducible repeat (first | refine blk_drewN ?_ _ | refine blk_drew ?_ | refine blk_alloc ?_ _)); exact BK133.out)) : gb140 ≠ gb133)); clear BK132; clear BK133; clear HB; have BK132 := n0_; have BK133 := n1_; have HB := n2_; have BK140 := n3_; have GW140 := n4_; have GE140 := n5_; have NB132_140 := n6_; have NB140_132 := n7_; have NB133_140 := n8_; have NB140_133 := n9_; clear n0_ n1_ n2_ n3_ n4_ n5_ n6_ n7_ n8_ n9_; clear hb hbox hg; have hnb10 := NB140_132.out; have hnc10 := NB132_140.out; have hnb11 := NB140_133.out; have hnc11 := NB133_140.out; have hcz12_0 : w9.cell? ⟨gb140, 0, none⟩ = some (.int .u8 0) := (blk_cell BK140.out 0).trans rfl; have hcz12_1 : w9.cell? ⟨gb140, 1, none⟩ = some (.int .u8 0) := (blk_cell BK140.out 1).trans rfl; have hcz12_2 : w9.cell? ⟨gb140, 2, none⟩ = some (.int .u8 0) := (blk_cell BK140.out 2).trans rfl; have hcz12_3 : w9.cell? ⟨gb140, 3, none⟩ = some (.int .u16 0) := (blk_cell BK140.out 3).trans rfl; have hcz12_4 : w9.cell? ⟨gb140, 4, none⟩ = some (.bool false) := (blk_cell BK140.out 4).trans rfl; have hcz12_5 : w9.cell? ⟨gb140, 5, none⟩ = some (.bool false) := (blk_cell BK140.out 5).trans rfl; have hfz12_0 := blk_frozen BK140.out 0; have hfz12_1 := blk_frozen BK140.out 1; have hfz12_2 := blk_frozen BK140.out 2; have hfz12_3 := blk_frozen BK140.out 3; have hfz12_4 := blk_frozen BK140.out 4; have hfz12_5 := blk_frozen BK140.out 5; have hcz13_0 : w9.cell? ⟨gb133, 0, none⟩ = some (.int .u8 0) := (blk_cell BK133.out 0).trans rfl; have hcz13_1 : w9.cell? ⟨gb133, 1, none⟩ = some (.int .u8 0) := (blk_cell BK133.out 1).trans rfl; have hcz13_2 : w9.cell? ⟨gb133, 2, none⟩ = some (.int .u8 0) := (blk_cell BK133.out 2).trans rfl; have hcz13_3 : w9.cell? ⟨gb133, 3, none⟩ = some (.int .u16 0) := (blk_cell BK133.out 3).trans rfl; have hcz13_4 : w9.cell? ⟨gb133, 4, none⟩ = some (.bool false) := (blk_cell BK133.out 4).trans rfl; have hcz13_5 : w9.cell? ⟨gb133, 5, none⟩ = some (.bool false) := (blk_cell BK133.out 5).trans rfl; have hfz13_0 := blk_frozen BK133.out 0; have hfz13_1 := blk_frozen BK133.out 1; have hfz13_2 := blk_frozen BK133.out 2; have hfz13_3 := blk_frozen BK133.out 3; have hfz13_4 := blk_frozen BK133.out 4; have hfz13_5 := blk_frozen BK133.out 5))
    refine bodyPost_ret (results_cell_row rfl _ _ gb133 24 #[.int .u8 t134, .int .u8 t135, .int .u8 t136, .int .u16 t137, .bool true, .bool t139] (0, 0) _ rfl (by (with_reducible repeat (first | refine blk_drewN ?_ _ | refine blk_drew ?_ | refine blk_alloc ?_ _)); refine blk_put (cs := #[.int .u8 t134, .int .u8 t135, .int .u8 t136, .int .u16 t137, .bool true, .bool false]) ?_ 5 _ rfl; (with_reducible repeat (first | refine blk_drewN ?_ _ | refine blk_drew ?_ | refine blk_alloc ?_ _)); refine blk_put (cs := #[.int .u8 t134, .int .u8 t135, .int .u8 t136, .int .u16 t137, .bool false, .bool false]) ?_ 4 _ rfl; (with_reducible repeat (first | refine blk_drewN ?_ _ | refine blk_drew ?_ | refine blk_alloc ?_ _)); refine blk_put (cs := #[.int .u8 t134, .int .u8 t135, .int .u8 t136, .int .u16 0, .bool false, .bool false]) ?_ 3 _ rfl; (with_reducible repeat (first | refine blk_drewN ?_ _ | refine blk_drew ?_ | refine blk_alloc ?_ _)); refine blk_put (cs := #[.int .u8 t134, .int .u8 t135, .int .u8 0, .int .u16 0, .bool false, .bool false]) ?_ 2 _ rfl; (with_reducible repeat (first | refine blk_drewN ?_ _ | refine blk_drew ?_ | refine blk_alloc ?_ _)); refine blk_put (cs := #[.int .u8 t134, .int .u8 0, .int .u8 0, .int .u16 0, .bool false, .bool false]) ?_ 1 _ rfl; (with_reducible repeat (first | refine blk_drewN ?_ _ | refine blk_drew ?_ | refine blk_alloc ?_ _)); refine blk_put (cs := #[.int .u8 0, .int .u8 0, .int .u8 0, .int .u16 0, .bool false, .bool false]) ?_ 0 _ rfl; (with_reducible repeat (first | refine blk_drewN ?_ _ | refine blk_drew ?_ | refine blk_alloc ?_ _)); refine blk_far ?_ NB133_140.out _; (with_reducible repeat (first | refine blk_drewN ?_ _ | refine blk_drew ?_ | refine blk_alloc ?_ _)); refine blk_far ?_ NB133_140.out _; (with_reducible repeat (first | refine blk_drewN ?_ _ | refine blk_drew ?_ | refine blk_alloc ?_ _)); refine blk_far ?_ NB133_140.out _; (with_reducible repeat (first | refine blk_drewN ?_ _ | refine blk_drew ?_ | refine blk_alloc ?_ _)); refine blk_far ?_ NB133_140.out _; (with_reducible repeat (first | refine blk_drewN ?_ _ | refine blk_drew ?_ | refine blk_alloc ?_ _)); refine blk_far ?_ NB133_140.out _; (with_reducible repeat (first | refine blk_drewN ?_ _ | refine blk_drew ?_ | refine blk_alloc ?_ _)); refine blk_far ?_ NB133_140.out _; (with_reducible repeat (first | refine blk_drewN ?_ _ | refine blk_drew ?_ | refine blk_alloc ?_ _)); exact BK133.out) Try.underlying24 rfl (by kernel_rfl)) rfl ?_
    exact ⟨by first | rfl | (simp [errW_none, errW_some] <;> rfl) | (simp [*, errW_none, errW_some] <;> rfl), by repeat (first | (with_reducible first | exact HB.out | apply below_alloc | apply pw_below_drewN | apply below_drew1 | refine below_set ?_ GE132.out | refine below_set ?_ GE133.out | refine below_set ?_ GE140.out) | exact HB.out)⟩
  · replace c3 := Bool.eq_false_iff.mpr c3
    subst c3
    have H1 : ((whirligigref09_on.f t134 59 64).bind fun t142 => (if t134 = 59 then ((whirligigref09_on.f t135 59 64).bind fun t143 => (whirligigref09_Tick.j0 k t134 t135 t136 t137 false t139 t142 t143 t136 t137 false t139)) else (whirligigref09_Tick.j0 k t134 t135 t136 t137 false t139 t142 t135 t136 t137 false t139))) = some (r1, r2, r3, r4, r5, r6) := by rw [if_neg (show ¬ (false = true) by decide)] at H; exact H
    clear H
    have H := H1
    clear H1
    replace H := Option.bind_eq_some_iff.mp H
    obtain ⟨t142, A140, H⟩ := H
    replace H : (if t134 = 59 then ((whirligigref09_on.f t135 59 64).bind fun t143 => (whirligigref09_Tick.j0 k t134 t135 t136 t137 false t139 t142 t143 t136 t137 false t139)) else (whirligigref09_Tick.j0 k t134 t135 t136 t137 false t139 t142 t135 t136 t137 false t139)) = some (r1, r2, r3, r4, r5, r6) := H
    have A14 := Aside0.mk A140
    clear A140
    have HC15 := Aside0.mk H
    clear H
    go_enter Try.func14, Try.ntmps14
    go_upto_if 17 with (first | ((with_reducible refine gate_dst (N := 1) rfl ?_); refine box_event ?hg (N := 1) ?hd (cs := #[.int .u8 a0_0, .int .u8 a0_1, .int .u8 a0_2, .int .u16 a0_3, .bool a0_4, .bool a0_5]) (t := 24) ?hr ?_; (case hd => rfl); (case hg => rfl); (case hr => first | (go_simp; done) | (go_simp; rfl)); intro gb132 hg w16 hbox hb; have n0_ := Aside0.mk (below_step (by repeat (first | (with_reducible first | exact HB.out | apply below_alloc | apply pw_below_drewN | apply below_drew1) | exact HB.out)) hb); have n1_ := Aside0.mk (hbox); have n2_ := Aside0.mk ((by rw [hg]; exact (below_size (by repeat (first | (with_reducible first | exact HB.out | apply below_alloc | apply pw_below_drewN | apply below_drew1) | exact HB.out))) : w.heap.size ≤ gb132)); have n3_ := Aside0.mk ((by rw [hg]; exact (below_size (by repeat (first | (with_reducible first | exact HB.out | apply below_alloc | apply pw_below_drewN | apply below_drew1) | exact HB.out))) : w.heap.size ≤ gb132)); clear HB; have HB := n0_; have BK132 := n1_; have GW132 := n2_; have GE132 := n3_; clear n0_ n1_ n2_ n3_; clear hb hbox hg) | ((with_reducible refine gate_dst (N := 2) rfl ?_); refine box_event ?hg (N := 2) ?hd (cs := #[.int .u8 0, .int .u8 0, .int .u8 0, .int .u16 0, .bool false, .bool false]) (t := 24) ?hr ?_; (case hd => rfl); (case hg => rfl); (case hr => first | (go_simp; done) | (go_simp; rfl)); intro gb133 hg w17 hbox hb; have n0_ := Aside0.mk (blk_below (g := gb132) (o := .cells #[.int .u8 a0_0, .int .u8 a0_1, .int .u8 a0_2, .int .u16 a0_3, .bool a0_4, .bool a0_5] 24 (0, 0)) (by (with_reducible repeat (first | refine blk_drewN ?_ _ | refine blk_drew ?_ | refine blk_alloc ?_ _)); exact BK132.out) hb); have n1_ := Aside0.mk (below_step (by repeat (first | (with_reducible first | exact HB.out | apply below_alloc | apply pw_below_drewN | apply below_drew1 | refine below_set ?_ GE132.out) | exact HB.out)) hb); have n2_ := Aside0.mk (hbox); have n3_ := Aside0.mk ((by rw [hg]; exact (below_size (by repeat (first | (with_reducible first | exact HB.out | apply below_alloc | apply pw_below_drewN | apply below_drew1 | refine below_set ?_ GE132.out) | exact HB.out))) : w.heap.size ≤ gb133)); have n4_ := Aside0.mk ((by rw [hg]; exact (below_size (by repeat (first | (with_reducible first | exact HB.out | apply below_alloc | apply pw_below_drewN | apply below_drew1 | refine below_set ?_ GE132.out) | exact HB.out))) : w.heap.size ≤ gb133)); have n5_ := Aside0.mk ((by rw [hg]; exact Nat.ne_of_lt (blk_lt (g := gb132) (o := .cells #[.int .u8 a0_0, .int .u8 a0_1, .int .u8 a0_2, .int .u16 a0_3, .bool a0_4, .bool a0_5] 24 (0, 0)) (by (with_reducible repeat (first | refine blk_drewN ?_ _ | refine blk_drew ?_ | refine blk_alloc ?_ _)); exact BK132.out)) : gb132 ≠ gb133)); have n6_ := Aside0.mk ((by rw [hg]; exact Nat.ne_of_gt (blk_lt (g := gb132) (o := .cells #[.int .u8 a0_0, .int .u8 a0_1, .int .u8 a0_2, .int .u16 a0_3, .bool a0_4, .bool a0_5] 24 (0, 0)) (by (with_reducible repeat (first | refine blk_drewN ?_ _ | refine blk_drew ?_ | refine blk_alloc ?_ _)); exact BK132.out)) : gb133 ≠ gb132)); clear BK132; clear HB; have BK132 := n0_; have HB := n1_; have BK133 := n2_; have GW133 := n3_; have GE133 := n4_; have NB132_133 := n5_; have NB133_132 := n6_; clear n0_ n1_ n2_ n3_ n4_ n5_ n6_; clear hb hbox hg; have hnb18 := NB132_133.out; have hnc18 := NB133_132.out; have hcz19_0 : w17.cell? ⟨gb132, 0, none⟩ = some (.int .u8 a0_0) := (blk_cell BK132.out 0).trans rfl; have hcz19_1 : w17.cell? ⟨gb132, 1, none⟩ = some (.int .u8 a0_1) := (blk_cell BK132.out 1).trans rfl; have hcz19_2 : w17.cell? ⟨gb132, 2, none⟩ = some (.int .u8 a0_2) := (blk_cell BK132.out 2).trans rfl; have hcz19_3 : w17.cell? ⟨gb132, 3, none⟩ = some (.int .u16 a0_3) := (blk_cell BK132.out 3).trans rfl; have hcz19_4 : w17.cell? ⟨gb132, 4, none⟩ = some (.bool a0_4) := (blk_cell BK132.out 4).trans rfl; have hcz19_5 : w17.cell? ⟨gb132, 5, none⟩ = some (.bool a0_5) := (blk_cell BK132.out 5).trans rfl; have hfz19_0 := blk_frozen BK132.out 0; have hfz19_1 := blk_frozen BK132.out 1; have hfz19_2 := blk_frozen BK132.out 2; have hfz19_3 := blk_frozen BK132.out 3; have hfz19_4 := blk_frozen BK132.out 4; have hfz19_5 := blk_frozen BK132.out 5) | ((with_reducible refine gate_callee (f := 16) rfl ?_); refine goesL_ (some 6) rfl rfl Try.func16 (by kernel_rfl) rfl #[.agg #[.int .u8 a0_0, .int .u8 a0_1, .int .u8 a0_2, .int .u16 a0_3, .bool a0_4, .bool a0_5]] rfl (by (try simp only [List.map_toArray, List.map_cons, List.map_nil]); first | done | rfl | (simp only [List.length_drop, List.length_take]; rfl)) ?_; (with_reducible refine (whirligigref09_Norm.calls a0_0 a0_1 a0_2 a0_3 a0_4 a0_5 t134 t135 t136 t137 false t139 _ A2.out).mono ?_); rintro e w20 ⟨rfl, hb⟩; refine ⟨_, rfl, ?_⟩; have n0_ := Aside0.mk (blk_below (g := gb132) (o := .cells #[.int .u8 a0_0, .int .u8 a0_1, .int .u8 a0_2, .int .u16 a0_3, .bool a0_4, .bool a0_5] 24 (0, 0)) (by (with_reducible repeat (first | refine blk_drewN ?_ _ | refine blk_drew ?_ | refine blk_alloc ?_ _)); exact BK132.out) hb); have n1_ := Aside0.mk (blk_below (g := gb133) (o := .cells #[.int .u8 0, .int .u8 0, .int .u8 0, .int .u16 0, .bool false, .bool false] 24 (0, 0)) (by (with_reducible repeat (first | refine blk_drewN ?_ _ | refine blk_drew ?_ | refine blk_alloc ?_ _)); exact BK133.out) hb); have n2_ := Aside0.mk (below_step (by repeat (first | (with_reducible first | exact HB.out | apply below_alloc | apply pw_below_drewN | apply below_drew1 | refine below_set ?_ GE132.out | refine below_set ?_ GE133.out) | exact HB.out)) hb); clear BK132; clear BK133; clear HB; have BK132 := n0_; have BK133 := n1_; have HB := n2_; clear n0_ n1_ n2_; (try clear hb); (try clear hb2); (try clear hk); (try clear hi)) | ((with_reducible refine gate_dst (N := 3) rfl ?_); refine box_event ?hg (N := 3) ?hd (cs := #[.int .u8 0, .int .u8 0, .int .u8 0, .int .u16 0, .bool false, .bool false]) (t := 24) ?hr ?_; (case hd => rfl); (case hg => rfl); (case hr => first | (go_simp; done) | (go_simp; rfl)); intro gb140 hg w21 hbox hb; have n0_ := Aside0.mk (blk_below (g := gb132) (o := .cells #[.int .u8 a0_0, .int .u8 a0_1, .int .u8 a0_2, .int .u16 a0_3, .bool a0_4, .bool a0_5] 24 (0, 0)) (by (with_reducible repeat (first | refine blk_drewN ?_ _ | refine blk_drew ?_ | refine blk_alloc ?_ _)); exact BK132.out) hb); have n1_ := Aside0.mk (blk_below (g := gb133) (o := .cells #[.int .u8 0, .int .u8 0, .int .u8 0, .int .u16 0, .bool false, .bool false] 24 (0, 0)) (by (with_reducible repeat (first | refine blk_drewN ?_ _ | refine blk_drew ?_ | refine blk_alloc ?_ _)); exact BK133.out) hb); have n2_ := Aside0.mk (below_step (by repeat (first | (with_reducible first | exact HB.out | apply below_alloc | apply pw_below_drewN | apply below_drew1 | refine below_set ?_ GE132.out | refine below_set ?_ GE133.out) | exact HB.out)) hb); have n3_ := Aside0.mk (hbox); have n4_ := Aside0.mk ((by rw [hg]; exact (below_size (by repeat (first | (with_reducible first | exact HB.out | apply below_alloc | apply pw_below_drewN | apply below_drew1 | refine below_set ?_ GE132.out | refine below_set ?_ GE133.out) | exact HB.out))) : w.heap.size ≤ gb140)); have n5_ := Aside0.mk ((by rw [hg]; exact (below_size (by repeat (first | (with_reducible first | exact HB.out | apply below_alloc | apply pw_below_drewN | apply below_drew1 | refine below_set ?_ GE132.out | refine below_set ?_ GE133.out) | exact HB.out))) : w.heap.size ≤ gb140)); have n6_ := Aside0.mk ((by rw [hg]; exact Nat.ne_of_lt (blk_lt (g := gb132) (o := .cells #[.int .u8 a0_0, .int .u8 a0_1, .int .u8 a0_2, .int .u16 a0_3, .bool a0_4, .bool a0_5] 24 (0, 0)) (by (with_reducible repeat (first | refine blk_drewN ?_ _ | refine blk_drew ?_ | refine blk_alloc ?_ _)); exact BK132.out)) : gb132 ≠ gb140)); have n7_ := Aside0.mk ((by rw [hg]; exact Nat.ne_of_gt (blk_lt (g := gb132) (o := .cells #[.int .u8 a0_0, .int .u8 a0_1, .int .u8 a0_2, .int .u16 a0_3, .bool a0_4, .bool a0_5] 24 (0, 0)) (by (with_reducible repeat (first | refine blk_drewN ?_ _ | refine blk_drew ?_ | refine blk_alloc ?_ _)); exact BK132.out)) : gb140 ≠ gb132)); have n8_ := Aside0.mk ((by rw [hg]; exact Nat.ne_of_lt (blk_lt (g := gb133) (o := .cells #[.int .u8 0, .int .u8 0, .int .u8 0, .int .u16 0, .bool false, .bool false] 24 (0, 0)) (by (with_reducible repeat (first | refine blk_drewN ?_ _ | refine blk_drew ?_ | refine blk_alloc ?_ _)); exact BK133.out)) : gb133 ≠ gb140)); have n9_ := Aside0.mk ((by rw [hg]; exact Nat.ne_of_gt (blk_lt (g := gb133) (o := .cells #[.int .u8 0, .int .u8 0, .int .u8 0, .int .u16 0, .bool false, .bool false] 24 (0, 0)) (by (with_reducible repeat (first | refine blk_drewN ?_ _ | refine blk_drew ?_ | refine blk_alloc ?_ _)); exact BK133.out)) : gb140 ≠ gb133)); clear BK132; clear BK133; clear HB; have BK132 := n0_; have BK133 := n1_; have HB := n2_; have BK140 := n3_; have GW140 := n4_; have GE140 := n5_; have NB132_140 := n6_; have NB140_132 := n7_; have NB133_140 := n8_; have NB140_133 := n9_; clear n0_ n1_ n2_ n3_ n4_ n5_ n6_ n7_ n8_ n9_; clear hb hbox hg; have hnb22 := NB140_132.out; have hnc22 := NB132_140.out; have hnb23 := NB140_133.out; have hnc23 := NB133_140.out; have hcz24_0 : w21.cell? ⟨gb140, 0, none⟩ = some (.int .u8 0) := (blk_cell BK140.out 0).trans rfl; have hcz24_1 : w21.cell? ⟨gb140, 1, none⟩ = some (.int .u8 0) := (blk_cell BK140.out 1).trans rfl; have hcz24_2 : w21.cell? ⟨gb140, 2, none⟩ = some (.int .u8 0) := (blk_cell BK140.out 2).trans rfl; have hcz24_3 : w21.cell? ⟨gb140, 3, none⟩ = some (.int .u16 0) := (blk_cell BK140.out 3).trans rfl; have hcz24_4 : w21.cell? ⟨gb140, 4, none⟩ = some (.bool false) := (blk_cell BK140.out 4).trans rfl; have hcz24_5 : w21.cell? ⟨gb140, 5, none⟩ = some (.bool false) := (blk_cell BK140.out 5).trans rfl; have hfz24_0 := blk_frozen BK140.out 0; have hfz24_1 := blk_frozen BK140.out 1; have hfz24_2 := blk_frozen BK140.out 2; have hfz24_3 := blk_frozen BK140.out 3; have hfz24_4 := blk_frozen BK140.out 4; have hfz24_5 := blk_frozen BK140.out 5) | ((with_reducible refine gate_dst (N := 4) rfl ?_); refine box_event ?hg (N := 4) ?hd (cs := #[.int .u8 0, .int .u8 0, .int .u8 0, .int .u16 0, .bool false, .bool false]) (t := 24) ?hr ?_; (case hd => rfl); (case hg => rfl); (case hr => first | (go_simp; done) | (go_simp; rfl)); intro gb141 hg w25 hbox hb; have n0_ := Aside0.mk (blk_below (g := gb132) (o := .cells #[.int .u8 a0_0, .int .u8 a0_1, .int .u8 a0_2, .int .u16 a0_3, .bool a0_4, .bool a0_5] 24 (0, 0)) (by (with_reducible repeat (first | refine blk_drewN ?_ _ | refine blk_drew ?_ | refine blk_alloc ?_ _)); refine blk_far ?_ NB132_140.out _; (with_reducible repeat (first | refine blk_drewN ?_ _ | refine blk_drew ?_ | refine blk_alloc ?_ _)); refine blk_far ?_ NB132_140.out _; (with_reducible repeat (first | refine blk_drewN ?_ _ | refine blk_drew ?_ | refine blk_alloc ?_ _)); refine blk_far ?_ NB132_140.out _; (with_reducible repeat (first | refine blk_drewN ?_ _ | refine blk_drew ?_ | refine blk_alloc ?_ _)); refine blk_far ?_ NB132_140.out _; (with_reducible repeat (first | refine blk_drewN ?_ _ | refine blk_drew ?_ | refine blk_alloc ?_ _)); refine blk_far ?_ NB132_140.out _; (with_reducible repeat (first | refine blk_drewN ?_ _ | refine blk_drew ?_ | refine blk_alloc ?_ _)); refine blk_far ?_ NB132_140.out _; (with_reducible repeat (first | refine blk_drewN ?_ _ | refine blk_drew ?_ | refine blk_alloc ?_ _)); exact BK132.out) hb); have n1_ := Aside0.mk (blk_below (g := gb133) (o := .cells #[.int .u8 0, .int .u8 0, .int .u8 0, .int .u16 0, .bool false, .bool false] 24 (0, 0)) (by (with_reducible repeat (first | refine blk_drewN ?_ _ | refine blk_drew ?_ | refine blk_alloc ?_ _)); refine blk_far ?_ NB133_140.out _; (with_reducible repeat (first | refine blk_drewN ?_ _ | refine blk_drew ?_ | refine blk_alloc ?_ _)); refine blk_far ?_ NB133_140.out _; (with_reducible repeat (first | refine blk_drewN ?_ _ | refine blk_drew ?_ | refine blk_alloc ?_ _)); refine blk_far ?_ NB133_140.out _; (with_reducible repeat (first | refine blk_drewN ?_ _ | refine blk_drew ?_ | refine blk_alloc ?_ _)); refine blk_far ?_ NB133_140.out _; (with_reducible repeat (first | refine blk_drewN ?_ _ | refine blk_drew ?_ | refine blk_alloc ?_ _)); refine blk_far ?_ NB133_140.out _; (with_reducible repeat (first | refine blk_drewN ?_ _ | refine blk_drew ?_ | refine blk_alloc ?_ _)); refine blk_far ?_ NB133_140.out _; (with_reducible repeat (first | refine blk_drewN ?_ _ | refine blk_drew ?_ | refine blk_alloc ?_ _)); exact BK133.out) hb); have n2_ := Aside0.mk (blk_below (g := gb140) (o := .cells #[.int .u8 t134, .int .u8 t135, .int .u8 t136, .int .u16 t137, .bool false, .bool t139] 24 (0, 0)) (by (with_reducible repeat (first | refine blk_drewN ?_ _ | refine blk_drew ?_ | refine blk_alloc ?_ _)); refine blk_put (cs := #[.int .u8 t134, .int .u8 t135, .int .u8 t136, .int .u16 t137, .bool false, .bool false]) ?_ 5 _ rfl; (with_reducible repeat (first | refine blk_drewN ?_ _ | refine blk_drew ?_ | refine blk_alloc ?_ _)); refine blk_put (cs := #[.int .u8 t134, .int .u8 t135, .int .u8 t136, .int .u16 t137, .bool false, .bool false]) ?_ 4 _ rfl; (with_reducible repeat (first | refine blk_drewN ?_ _ | refine blk_drew ?_ | refine blk_alloc ?_ _)); refine blk_put (cs := #[.int .u8 t134, .int .u8 t135, .int .u8 t136, .int .u16 0, .bool false, .bool false]) ?_ 3 _ rfl; (with_reducible repeat (first | refine blk_drewN ?_ _ | refine blk_drew ?_ | refine blk_alloc ?_ _)); refine blk_put (cs := #[.int .u8 t134, .int .u8 t135, .int .u8 0, .int .u16 0, .bool false, .bool false]) ?_ 2 _ rfl; (with_reducible repeat (first | refine blk_drewN ?_ _ | refine blk_drew ?_ | refine blk_alloc ?_ _)); refine blk_put (cs := #[.int .u8 t134, .int .u8 0, .int .u8 0, .int .u16 0, .bool false, .bool false]) ?_ 1 _ rfl; (with_reducible repeat (first | refine blk_drewN ?_ _ | refine blk_drew ?_ | refine blk_alloc ?_ _)); refine blk_put (cs := #[.int .u8 0, .int .u8 0, .int .u8 0, .int .u16 0, .bool false, .bool false]) ?_ 0 _ rfl; (with_reducible repeat (first | refine blk_drewN ?_ _ | refine blk_drew ?_ | refine blk_alloc ?_ _)); exact BK140.out) hb); have n3_ := Aside0.mk (below_step (by repeat (first | (with_reducible first | exact HB.out | apply below_alloc | apply pw_below_drewN | apply below_drew1 | refine below_set ?_ GE132.out | refine below_set ?_ GE133.out | refine below_set ?_ GE140.out) | exact HB.out)) hb); have n4_ := Aside0.mk (hbox); have n5_ := Aside0.mk ((by rw [hg]; exact (below_size (by repeat (first | (with_reducible first | exact HB.out | apply below_alloc | apply pw_below_drewN | apply below_drew1 | refine below_set ?_ GE132.out | refine below_set ?_ GE133.out | refine below_set ?_ GE140.out) | exact HB.out))) : w.heap.size ≤ gb141)); have n6_ := Aside0.mk ((by rw [hg]; exact (below_size (by repeat (first | (with_reducible first | exact HB.out | apply below_alloc | apply pw_below_drewN | apply below_drew1 | refine below_set ?_ GE132.out | refine below_set ?_ GE133.out | refine below_set ?_ GE140.out) | exact HB.out))) : w.heap.size ≤ gb141)); have n7_ := Aside0.mk ((by rw [hg]; exact Nat.ne_of_lt (blk_lt (g := gb132) (o := .cells #[.int .u8 a0_0, .int .u8 a0_1, .int .u8 a0_2, .int .u16 a0_3, .bool a0_4, .bool a0_5] 24 (0, 0)) (by (with_reducible repeat (first | refine blk_drewN ?_ _ | refine blk_drew ?_ | refine blk_alloc ?_ _)); refine blk_far ?_ NB132_140.out _; (with_reducible repeat (first | refine blk_drewN ?_ _ | refine blk_drew ?_ | refine blk_alloc ?_ _)); refine blk_far ?_ NB132_140.out _; (with_reducible repeat (first | refine blk_drewN ?_ _ | refine blk_drew ?_ | refine blk_alloc ?_ _)); refine blk_far ?_ NB132_140.out _; (with_reducible repeat (first | refine blk_drewN ?_ _ | refine blk_drew ?_ | refine blk_alloc ?_ _)); refine blk_far ?_ NB132_140.out _; (with_reducible repeat (first | refine blk_drewN ?_ _ | refine blk_drew ?_ | refine blk_alloc ?_ _)); refine blk_far ?_ NB132_140.out _; (with_reducible repeat (first | refine blk_drewN ?_ _ | refine blk_drew ?_ | refine blk_alloc ?_ _)); refine blk_far ?_ NB132_140.out _; (with_reducible repeat (first | refine blk_drewN ?_ _ | refine blk_drew ?_ | refine blk_alloc ?_ _)); exact BK132.out)) : gb132 ≠ gb141)); have n8_ := Aside0.mk ((by rw [hg]; exact Nat.ne_of_gt (blk_lt (g := gb132) (o := .cells #[.int .u8 a0_0, .int .u8 a0_1, .int .u8 a0_2, .int .u16 a0_3, .bool a0_4, .bool a0_5] 24 (0, 0)) (by (with_reducible repeat (first | refine blk_drewN ?_ _ | refine blk_drew ?_ | refine blk_alloc ?_ _)); refine blk_far ?_ NB132_140.out _; (with_reducible repeat (first | refine blk_drewN ?_ _ | refine blk_drew ?_ | refine blk_alloc ?_ _)); refine blk_far ?_ NB132_140.out _; (with_reducible repeat (first | refine blk_drewN ?_ _ | refine blk_drew ?_ | refine blk_alloc ?_ _)); refine blk_far ?_ NB132_140.out _; (with_reducible repeat (first | refine blk_drewN ?_ _ | refine blk_drew ?_ | refine blk_alloc ?_ _)); refine blk_far ?_ NB132_140.out _; (with_reducible repeat (first | refine blk_drewN ?_ _ | refine blk_drew ?_ | refine blk_alloc ?_ _)); refine blk_far ?_ NB132_140.out _; (with_reducible repeat (first | refine blk_drewN ?_ _ | refine blk_drew ?_ | refine blk_alloc ?_ _)); refine blk_far ?_ NB132_140.out _; (with_reducible repeat (first | refine blk_drewN ?_ _ | refine blk_drew ?_ | refine blk_alloc ?_ _)); exact BK132.out)) : gb141 ≠ gb132)); have n9_ := Aside0.mk ((by rw [hg]; exact Nat.ne_of_lt (blk_lt (g := gb133) (o := .cells #[.int .u8 0, .int .u8 0, .int .u8 0, .int .u16 0, .bool false, .bool false] 24 (0, 0)) (by (with_reducible repeat (first | refine blk_drewN ?_ _ | refine blk_drew ?_ | refine blk_alloc ?_ _)); refine blk_far ?_ NB133_140.out _; (with_reducible repeat (first | refine blk_drewN ?_ _ | refine blk_drew ?_ | refine blk_alloc ?_ _)); refine blk_far ?_ NB133_140.out _; (with_reducible repeat (first | refine blk_drewN ?_ _ | refine blk_drew ?_ | refine blk_alloc ?_ _)); refine blk_far ?_ NB133_140.out _; (with_reducible repeat (first | refine blk_drewN ?_ _ | refine blk_drew ?_ | refine blk_alloc ?_ _)); refine blk_far ?_ NB133_140.out _; (with_reducible repeat (first | refine blk_drewN ?_ _ | refine blk_drew ?_ | refine blk_alloc ?_ _)); refine blk_far ?_ NB133_140.out _; (with_reducible repeat (first | refine blk_drewN ?_ _ | refine blk_drew ?_ | refine blk_alloc ?_ _)); refine blk_far ?_ NB133_140.out _; (with_reducible repeat (first | refine blk_drewN ?_ _ | refine blk_drew ?_ | refine blk_alloc ?_ _)); exact BK133.out)) : gb133 ≠ gb141)); have n10_ := Aside0.mk ((by rw [hg]; exact Nat.ne_of_gt (blk_lt (g := gb133) (o := .cells #[.int .u8 0, .int .u8 0, .int .u8 0, .int .u16 0, .bool false, .bool false] 24 (0, 0)) (by (with_reducible repeat (first | refine blk_drewN ?_ _ | refine blk_drew ?_ | refine blk_alloc ?_ _)); refine blk_far ?_ NB133_140.out _; (with_reducible repeat (first | refine blk_drewN ?_ _ | refine blk_drew ?_ | refine blk_alloc ?_ _)); refine blk_far ?_ NB133_140.out _; (with_reducible repeat (first | refine blk_drewN ?_ _ | refine blk_drew ?_ | refine blk_alloc ?_ _)); refine blk_far ?_ NB133_140.out _; (with_reducible repeat (first | refine blk_drewN ?_ _ | refine blk_drew ?_ | refine blk_alloc ?_ _)); refine blk_far ?_ NB133_140.out _; (with_reducible repeat (first | refine blk_drewN ?_ _ | refine blk_drew ?_ | refine blk_alloc ?_ _)); refine blk_far ?_ NB133_140.out _; (with_reducible repeat (first | refine blk_drewN ?_ _ | refine blk_drew ?_ | refine blk_alloc ?_ _)); refine blk_far ?_ NB133_140.out _; (with_reducible repeat (first | refine blk_drewN ?_ _ | refine blk_drew ?_ | refine blk_alloc ?_ _)); exact BK133.out)) : gb141 ≠ gb133)); have n11_ := Aside0.mk ((by rw [hg]; exact Nat.ne_of_lt (blk_lt (g := gb140) (o := .cells #[.int .u8 t134, .int .u8 t135, .int .u8 t136, .int .u16 t137, .bool false, .bool t139] 24 (0, 0)) (by (with_reducible repeat (first | refine blk_drewN ?_ _ | refine blk_drew ?_ | refine blk_alloc ?_ _)); refine blk_put (cs := #[.int .u8 t134, .int .u8 t135, .int .u8 t136, .int .u16 t137, .bool false, .bool false]) ?_ 5 _ rfl; (with_reducible repeat (first | refine blk_drewN ?_ _ | refine blk_drew ?_ | refine blk_alloc ?_ _)); refine blk_put (cs := #[.int .u8 t134, .int .u8 t135, .int .u8 t136, .int .u16 t137, .bool false, .bool false]) ?_ 4 _ rfl; (with_reducible repeat (first | refine blk_drewN ?_ _ | refine blk_drew ?_ | refine blk_alloc ?_ _)); refine blk_put (cs := #[.int .u8 t134, .int .u8 t135, .int .u8 t136, .int .u16 0, .bool false, .bool false]) ?_ 3 _ rfl; (with_reducible repeat (first | refine blk_drewN ?_ _ | refine blk_drew ?_ | refine blk_alloc ?_ _)); refine blk_put (cs := #[.int .u8 t134, .int .u8 t135, .int .u8 0, .int .u16 0, .bool false, .bool false]) ?_ 2 _ rfl; (with_reducible repeat (first | refine blk_drewN ?_ _ | refine blk_drew ?_ | refine blk_alloc ?_ _)); refine blk_put (cs := #[.int .u8 t134, .int .u8 0, .int .u8 0, .int .u16 0, .bool false, .bool false]) ?_ 1 _ rfl; (with_reducible repeat (first | refine blk_drewN ?_ _ | refine blk_drew ?_ | refine blk_alloc ?_ _)); refine blk_put (cs := #[.int .u8 0, .int .u8 0, .int .u8 0, .int .u16 0, .bool false, .bool false]) ?_ 0 _ rfl; (with_reducible repeat (first | refine blk_drewN ?_ _ | refine blk_drew ?_ | refine blk_alloc ?_ _)); exact BK140.out)) : gb140 ≠ gb141)); have n12_ := Aside0.mk ((by rw [hg]; exact Nat.ne_of_gt (blk_lt (g := gb140) (o := .cells #[.int .u8 t134, .int .u8 t135, .int .u8 t136, .int .u16 t137, .bool false, .bool t139] 24 (0, 0)) (by (with_reducible repeat (first | refine blk_drewN ?_ _ | refine blk_drew ?_ | refine blk_alloc ?_ _)); refine blk_put (cs := #[.int .u8 t134, .int .u8 t135, .int .u8 t136, .int .u16 t137, .bool false, .bool false]) ?_ 5 _ rfl; (with_reducible repeat (first | refine blk_drewN ?_ _ | refine blk_drew ?_ | refine blk_alloc ?_ _)); refine blk_put (cs := #[.int .u8 t134, .int .u8 t135, .int .u8 t136, .int .u16 t137, .bool false, .bool false]) ?_ 4 _ rfl; (with_reducible repeat (first | refine blk_drewN ?_ _ | refine blk_drew ?_ | refine blk_alloc ?_ _)); refine blk_put (cs := #[.int .u8 t134, .int .u8 t135, .int .u8 t136, .int .u16 0, .bool false, .bool false]) ?_ 3 _ rfl; (with_reducible repeat (first | refine blk_drewN ?_ _ | refine blk_drew ?_ | refine blk_alloc ?_ _)); refine blk_put (cs := #[.int .u8 t134, .int .u8 t135, .int .u8 0, .int .u16 0, .bool false, .bool false]) ?_ 2 _ rfl; (with_reducible repeat (first | refine blk_drewN ?_ _ | refine blk_drew ?_ | refine blk_alloc ?_ _)); refine blk_put (cs := #[.int .u8 t134, .int .u8 0, .int .u8 0, .int .u16 0, .bool false, .bool false]) ?_ 1 _ rfl; (with_reducible repeat (first | refine blk_drewN ?_ _ | refine blk_drew ?_ | refine blk_alloc ?_ _)); refine blk_put (cs := #[.int .u8 0, .int .u8 0, .int .u8 0, .int .u16 0, .bool false, .bool false]) ?_ 0 _ rfl; (with_reducible repeat (first | refine blk_drewN ?_ _ | refine blk_drew ?_ | refine blk_alloc ?_ _)); exact BK140.out)) : gb141 ≠ gb140)); clear BK132; clear BK133; clear BK140; clear HB; have BK132 := n0_; have BK133 := n1_; have BK140 := n2_; have HB := n3_; have BK141 := n4_; have GW141 := n5_; have GE141 := n6_; have NB132_141 := n7_; have NB141_132 := n8_; have NB133_141 := n9_; have NB141_133 := n10_; have NB140_141 := n11_; have NB141_140 := n12_; clear n0_ n1_ n2_ n3_ n4_ n5_ n6_ n7_ n8_ n9_ n10_ n11_ n12_; clear hb hbox hg; have hnb26 := NB141_132.out; have hnc26 := NB132_141.out; have hnb27 := NB141_133.out; have hnc27 := NB133_141.out; have hnb28 := NB141_140.out; have hnc28 := NB140_141.out; have hcz29_0 : w25.cell? ⟨gb141, 0, none⟩ = some (.int .u8 0) := (blk_cell BK141.out 0).trans rfl; have hcz29_1 : w25.cell? ⟨gb141, 1, none⟩ = some (.int .u8 0) := (blk_cell BK141.out 1).trans rfl; have hcz29_2 : w25.cell? ⟨gb141, 2, none⟩ = some (.int .u8 0) := (blk_cell BK141.out 2).trans rfl; have hcz29_3 : w25.cell? ⟨gb141, 3, none⟩ = some (.int .u16 0) := (blk_cell BK141.out 3).trans rfl; have hcz29_4 : w25.cell? ⟨gb141, 4, none⟩ = some (.bool false) := (blk_cell BK141.out 4).trans rfl; have hcz29_5 : w25.cell? ⟨gb141, 5, none⟩ = some (.bool false) := (blk_cell BK141.out 5).trans rfl; have hfz29_0 := blk_frozen BK141.out 0; have hfz29_1 := blk_frozen BK141.out 1; have hfz29_2 := blk_frozen BK141.out 2; have hfz29_3 := blk_frozen BK141.out 3; have hfz29_4 := blk_frozen BK141.out 4; have hfz29_5 := blk_frozen BK141.out 5; have hcz30_0 : w25.cell? ⟨gb140, 0, none⟩ = some (.int .u8 t134) := (blk_cell BK140.out 0).trans rfl; have hcz30_1 : w25.cell? ⟨gb140, 1, none⟩ = some (.int .u8 t135) := (blk_cell BK140.out 1).trans rfl; have hcz30_2 : w25.cell? ⟨gb140, 2, none⟩ = some (.int .u8 t136) := (blk_cell BK140.out 2).trans rfl; have hcz30_3 : w25.cell? ⟨gb140, 3, none⟩ = some (.int .u16 t137) := (blk_cell BK140.out 3).trans rfl; have hcz30_4 : w25.cell? ⟨gb140, 4, none⟩ = some (.bool false) := (blk_cell BK140.out 4).trans rfl; have hcz30_5 : w25.cell? ⟨gb140, 5, none⟩ = some (.bool t139) := (blk_cell BK140.out 5).trans rfl; have hfz30_0 := blk_frozen BK140.out 0; have hfz30_1 := blk_frozen BK140.out 1; have hfz30_2 := blk_frozen BK140.out 2; have hfz30_3 := blk_frozen BK140.out 3; have hfz30_4 := blk_frozen BK140.out 4; have hfz30_5 := blk_frozen BK140.out 5) | ((with_reducible refine gate_callee (f := 28) rfl ?_); refine goesL_ (some 13) rfl rfl Try.func28 (by kernel_rfl) rfl #[.int .u8 t134, .int .u8 59, .int .u8 64] rfl (by (try simp only [List.map_toArray, List.map_cons, List.map_nil]); first | done | rfl | (simp only [List.length_drop, List.length_take]; rfl)) ?_; (with_reducible refine (whirligigref09_on.calls t134 59 64 t142 _ A14.out).mono ?_); rintro e w' ⟨rfl, ⟨nd, rfl⟩⟩; refine ⟨_, rfl, ?_⟩))
    (try simp only [Act.put, List.setIfInBounds_toArray, List.set_cons_zero, List.set_cons_succ])
    go_cut [] (fun wc => ∃ (kq : Nat) (x142001_14 : Int), Aside0 (whirligigref09_Tick.j0 kq t134 t135 t136 t137 false t139 t142 x142001_14 t136 t137 false t139 = some (r1, r2, r3, r4, r5, r6)) ∧ Aside0 (kq ≤ k) ∧ Aside0 (wc.heap[gb132]? = some (.cells #[.int .u8 a0_0, .int .u8 a0_1, .int .u8 a0_2, .int .u16 a0_3, .bool a0_4, .bool a0_5] 24 (0, 0))) ∧ Aside0 (wc.heap[gb133]? = some (.cells #[.int .u8 0, .int .u8 0, .int .u8 0, .int .u16 0, .bool false, .bool false] 24 (0, 0))) ∧ Aside0 (wc.heap[gb140]? = some (.cells #[.int .u8 t134, .int .u8 t135, .int .u8 t136, .int .u16 t137, .bool false, .bool t139] 24 (0, 0))) ∧ Aside0 (wc.heap[gb141]? = some (.cells #[.int .u8 t142, .int .u8 x142001_14, .int .u8 t136, .int .u16 t137, .bool false, .bool t139] 24 (0, 0))) ∧ Aside0 (Below w.heap.size w wc))
    case first =>
      have H := HC15.out
      clear HC15
      by_cases c31 : t134 = 59
      · rw [if_pos c31] at H
        have c31b0 : (t134 == 59) = true := beq_iff_eq.mpr c31
        have c31b1 : (t134 != 59) = false := bne_eq_false_iff_eq.mpr c31
        clear c31
        (first | rw [c31b0] | (simp only [i64_w, i32_w]; rw [c31b0]) | skip)
        replace H := Option.bind_eq_some_iff.mp H
        obtain ⟨t143, A320, H⟩ := H
        replace H : (whirligigref09_Tick.j0 k t134 t135 t136 t137 false t139 t142 t143 t136 t137 false t139) = some (r1, r2, r3, r4, r5, r6) := H
        have A32 := Aside0.mk A320
        clear A320
        have H' := Aside0.mk H
        clear H
        have hnb33 := NB140_132.out
        have hnc33 := NB132_140.out
        have hnb34 := NB140_133.out
        have hnc34 := NB133_140.out
        have hnb35 := NB140_141.out
        have hnc35 := NB141_140.out
        have hcz36_0 : w25.cell? ⟨gb140, 0, none⟩ = some (.int .u8 t134) := (blk_cell BK140.out 0).trans rfl
        have hcz36_1 : w25.cell? ⟨gb140, 1, none⟩ = some (.int .u8 t135) := (blk_cell BK140.out 1).trans rfl
        have hcz36_2 : w25.cell? ⟨gb140, 2, none⟩ = some (.int .u8 t136) := (blk_cell BK140.out 2).trans rfl
        have hcz36_3 : w25.cell? ⟨gb140, 3, none⟩ = some (.int .u16 t137) := (blk_cell BK140.out 3).trans rfl
        have hcz36_4 : w25.cell? ⟨gb140, 4, none⟩ = some (.bool false) := (blk_cell BK140.out 4).trans rfl
        have hcz36_5 : w25.cell? ⟨gb140, 5, none⟩ = some (.bool t139) := (blk_cell BK140.out 5).trans rfl
        have hfz36_0 := blk_frozen BK140.out 0
        have hfz36_1 := blk_frozen BK140.out 1
        have hfz36_2 := blk_frozen BK140.out 2
        have hfz36_3 := blk_frozen BK140.out 3
        have hfz36_4 := blk_frozen BK140.out 4
        have hfz36_5 := blk_frozen BK140.out 5
        go_wp2_with (first | ((with_reducible refine gate_callee (f := 28) rfl ?_); refine goesL_ (some 20) rfl rfl Try.func28 (by kernel_rfl) rfl #[.int .u8 t135, .int .u8 59, .int .u8 64] rfl (by (try simp only [List.map_toArray, List.map_cons, List.map_nil]); first | done | rfl | (simp only [List.length_drop, List.length_take]; rfl)) ?_; (with_reducible refine (whirligigref09_on.calls t135 59 64 t143 _ A32.out).mono ?_); rintro e w' ⟨rfl, ⟨nd, rfl⟩⟩; refine ⟨_, rfl, ?_⟩; have hnb37 := NB141_132.out; have hnc37 := NB132_141.out; have hnb38 := NB141_133.out; have hnc38 := NB133_141.out; have hcz39_0 : w25.cell? ⟨gb141, 0, none⟩ = some (.int .u8 0) := (blk_cell BK141.out 0).trans rfl; have hcz39_1 : w25.cell? ⟨gb141, 1, none⟩ = some (.int .u8 0) := (blk_cell BK141.out 1).trans rfl; have hcz39_2 : w25.cell? ⟨gb141, 2, none⟩ = some (.int .u8 0) := (blk_cell BK141.out 2).trans rfl; have hcz39_3 : w25.cell? ⟨gb141, 3, none⟩ = some (.int .u16 0) := (blk_cell BK141.out 3).trans rfl; have hcz39_4 : w25.cell? ⟨gb141, 4, none⟩ = some (.bool false) := (blk_cell BK141.out 4).trans rfl; have hcz39_5 : w25.cell? ⟨gb141, 5, none⟩ = some (.bool false) := (blk_cell BK141.out 5).trans rfl; have hfz39_0 := blk_frozen BK141.out 0; have hfz39_1 := blk_frozen BK141.out 1; have hfz39_2 := blk_frozen BK141.out 2; have hfz39_3 := blk_frozen BK141.out 3; have hfz39_4 := blk_frozen BK141.out 4; have hfz39_5 := blk_frozen BK141.out 5))
        go_meet
        case rel => exact ⟨_, (t143), H', ⟨by first | omega | exact Nat.le_refl _⟩, ⟨by (with_reducible repeat (first | refine blk_drewN ?_ _ | refine blk_drew ?_ | refine blk_alloc ?_ _)); refine blk_far ?_ NB132_141.out _; (with_reducible repeat (first | refine blk_drewN ?_ _ | refine blk_drew ?_ | refine blk_alloc ?_ _)); refine blk_far ?_ NB132_141.out _; (with_reducible repeat (first | refine blk_drewN ?_ _ | refine blk_drew ?_ | refine blk_alloc ?_ _)); refine blk_far ?_ NB132_141.out _; (with_reducible repeat (first | refine blk_drewN ?_ _ | refine blk_drew ?_ | refine blk_alloc ?_ _)); refine blk_far ?_ NB132_141.out _; (with_reducible repeat (first | refine blk_drewN ?_ _ | refine blk_drew ?_ | refine blk_alloc ?_ _)); refine blk_far ?_ NB132_141.out _; (with_reducible repeat (first | refine blk_drewN ?_ _ | refine blk_drew ?_ | refine blk_alloc ?_ _)); refine blk_far ?_ NB132_141.out _; (with_reducible repeat (first | refine blk_drewN ?_ _ | refine blk_drew ?_ | refine blk_alloc ?_ _)); refine blk_far ?_ NB132_141.out _; (with_reducible repeat (first | refine blk_drewN ?_ _ | refine blk_drew ?_ | refine blk_alloc ?_ _)); refine blk_far ?_ NB132_141.out _; (with_reducible repeat (first | refine blk_drewN ?_ _ | refine blk_drew ?_ | refine blk_alloc ?_ _)); exact BK132.out⟩, ⟨by (with_reducible repeat (first | refine blk_drewN ?_ _ | refine blk_drew ?_ | refine blk_alloc ?_ _)); refine blk_far ?_ NB133_141.out _; (with_reducible repeat (first | refine blk_drewN ?_ _ | refine blk_drew ?_ | refine blk_alloc ?_ _)); refine blk_far ?_ NB133_141.out _; (with_reducible repeat (first | refine blk_drewN ?_ _ | refine blk_drew ?_ | refine blk_alloc ?_ _)); refine blk_far ?_ NB133_141.out _; (with_reducible repeat (first | refine blk_drewN ?_ _ | refine blk_drew ?_ | refine blk_alloc ?_ _)); refine blk_far ?_ NB133_141.out _; (with_reducible repeat (first | refine blk_drewN ?_ _ | refine blk_drew ?_ | refine blk_alloc ?_ _)); refine blk_far ?_ NB133_141.out _; (with_reducible repeat (first | refine blk_drewN ?_ _ | refine blk_drew ?_ | refine blk_alloc ?_ _)); refine blk_far ?_ NB133_141.out _; (with_reducible repeat (first | refine blk_drewN ?_ _ | refine blk_drew ?_ | refine blk_alloc ?_ _)); refine blk_far ?_ NB133_141.out _; (with_reducible repeat (first | refine blk_drewN ?_ _ | refine blk_drew ?_ | refine blk_alloc ?_ _)); refine blk_far ?_ NB133_141.out _; (with_reducible repeat (first | refine blk_drewN ?_ _ | refine blk_drew ?_ | refine blk_alloc ?_ _)); exact BK133.out⟩, ⟨by (with_reducible repeat (first | refine blk_drewN ?_ _ | refine blk_drew ?_ | refine blk_alloc ?_ _)); refine blk_far ?_ NB140_141.out _; (with_reducible repeat (first | refine blk_drewN ?_ _ | refine blk_drew ?_ | refine blk_alloc ?_ _)); refine blk_far ?_ NB140_141.out _; (with_reducible repeat (first | refine blk_drewN ?_ _ | refine blk_drew ?_ | refine blk_alloc ?_ _)); refine blk_far ?_ NB140_141.out _; (with_reducible repeat (first | refine blk_drewN ?_ _ | refine blk_drew ?_ | refine blk_alloc ?_ _)); refine blk_far ?_ NB140_141.out _; (with_reducible repeat (first | refine blk_drewN ?_ _ | refine blk_drew ?_ | refine blk_alloc ?_ _)); refine blk_far ?_ NB140_141.out _; (with_reducible repeat (first | refine blk_drewN ?_ _ | refine blk_drew ?_ | refine blk_alloc ?_ _)); refine blk_far ?_ NB140_141.out _; (with_reducible repeat (first | refine blk_drewN ?_ _ | refine blk_drew ?_ | refine blk_alloc ?_ _)); refine blk_far ?_ NB140_141.out _; (with_reducible repeat (first | refine blk_drewN ?_ _ | refine blk_drew ?_ | refine blk_alloc ?_ _)); refine blk_far ?_ NB140_141.out _; (with_reducible repeat (first | refine blk_drewN ?_ _ | refine blk_drew ?_ | refine blk_alloc ?_ _)); exact BK140.out⟩, ⟨by (with_reducible repeat (first | refine blk_drewN ?_ _ | refine blk_drew ?_ | refine blk_alloc ?_ _)); refine blk_put (cs := #[.int .u8 t142, .int .u8 t135, .int .u8 t136, .int .u16 t137, .bool false, .bool t139]) ?_ 1 _ rfl; (with_reducible repeat (first | refine blk_drewN ?_ _ | refine blk_drew ?_ | refine blk_alloc ?_ _)); refine blk_put (cs := #[.int .u8 t134, .int .u8 t135, .int .u8 t136, .int .u16 t137, .bool false, .bool t139]) ?_ 0 _ rfl; (with_reducible repeat (first | refine blk_drewN ?_ _ | refine blk_drew ?_ | refine blk_alloc ?_ _)); refine blk_put (cs := #[.int .u8 t134, .int .u8 t135, .int .u8 t136, .int .u16 t137, .bool false, .bool false]) ?_ 5 _ rfl; (with_reducible repeat (first | refine blk_drewN ?_ _ | refine blk_drew ?_ | refine blk_alloc ?_ _)); refine blk_put (cs := #[.int .u8 t134, .int .u8 t135, .int .u8 t136, .int .u16 t137, .bool false, .bool false]) ?_ 4 _ rfl; (with_reducible repeat (first | refine blk_drewN ?_ _ | refine blk_drew ?_ | refine blk_alloc ?_ _)); refine blk_put (cs := #[.int .u8 t134, .int .u8 t135, .int .u8 t136, .int .u16 0, .bool false, .bool false]) ?_ 3 _ rfl; (with_reducible repeat (first | refine blk_drewN ?_ _ | refine blk_drew ?_ | refine blk_alloc ?_ _)); refine blk_put (cs := #[.int .u8 t134, .int .u8 t135, .int .u8 0, .int .u16 0, .bool false, .bool false]) ?_ 2 _ rfl; (with_reducible repeat (first | refine blk_drewN ?_ _ | refine blk_drew ?_ | refine blk_alloc ?_ _)); refine blk_put (cs := #[.int .u8 t134, .int .u8 0, .int .u8 0, .int .u16 0, .bool false, .bool false]) ?_ 1 _ rfl; (with_reducible repeat (first | refine blk_drewN ?_ _ | refine blk_drew ?_ | refine blk_alloc ?_ _)); refine blk_put (cs := #[.int .u8 0, .int .u8 0, .int .u8 0, .int .u16 0, .bool false, .bool false]) ?_ 0 _ rfl; (with_reducible repeat (first | refine blk_drewN ?_ _ | refine blk_drew ?_ | refine blk_alloc ?_ _)); exact BK141.out⟩, ⟨by repeat (first | (with_reducible first | exact HB.out | apply below_alloc | apply pw_below_drewN | apply below_drew1 | refine below_set ?_ GE132.out | refine below_set ?_ GE133.out | refine below_set ?_ GE140.out | refine below_set ?_ GE141.out) | exact HB.out)⟩⟩
      · rw [if_neg c31] at H
        have c31b0 : (t134 == 59) = false := beq_eq_false_iff_ne.mpr c31
        have c31b1 : (t134 != 59) = true := bne_iff_ne.mpr c31
        (first | rw [c31b0] | (simp only [i64_w, i32_w]; rw [c31b0]) | skip)
        have H' := Aside0.mk H
        clear H
        go_wp2
        go_meet
        case rel => exact ⟨_, (t135), H', ⟨by first | omega | exact Nat.le_refl _⟩, ⟨by (with_reducible repeat (first | refine blk_drewN ?_ _ | refine blk_drew ?_ | refine blk_alloc ?_ _)); refine blk_far ?_ NB132_141.out _; (with_reducible repeat (first | refine blk_drewN ?_ _ | refine blk_drew ?_ | refine blk_alloc ?_ _)); refine blk_far ?_ NB132_141.out _; (with_reducible repeat (first | refine blk_drewN ?_ _ | refine blk_drew ?_ | refine blk_alloc ?_ _)); refine blk_far ?_ NB132_141.out _; (with_reducible repeat (first | refine blk_drewN ?_ _ | refine blk_drew ?_ | refine blk_alloc ?_ _)); refine blk_far ?_ NB132_141.out _; (with_reducible repeat (first | refine blk_drewN ?_ _ | refine blk_drew ?_ | refine blk_alloc ?_ _)); refine blk_far ?_ NB132_141.out _; (with_reducible repeat (first | refine blk_drewN ?_ _ | refine blk_drew ?_ | refine blk_alloc ?_ _)); refine blk_far ?_ NB132_141.out _; (with_reducible repeat (first | refine blk_drewN ?_ _ | refine blk_drew ?_ | refine blk_alloc ?_ _)); refine blk_far ?_ NB132_141.out _; (with_reducible repeat (first | refine blk_drewN ?_ _ | refine blk_drew ?_ | refine blk_alloc ?_ _)); exact BK132.out⟩, ⟨by (with_reducible repeat (first | refine blk_drewN ?_ _ | refine blk_drew ?_ | refine blk_alloc ?_ _)); refine blk_far ?_ NB133_141.out _; (with_reducible repeat (first | refine blk_drewN ?_ _ | refine blk_drew ?_ | refine blk_alloc ?_ _)); refine blk_far ?_ NB133_141.out _; (with_reducible repeat (first | refine blk_drewN ?_ _ | refine blk_drew ?_ | refine blk_alloc ?_ _)); refine blk_far ?_ NB133_141.out _; (with_reducible repeat (first | refine blk_drewN ?_ _ | refine blk_drew ?_ | refine blk_alloc ?_ _)); refine blk_far ?_ NB133_141.out _; (with_reducible repeat (first | refine blk_drewN ?_ _ | refine blk_drew ?_ | refine blk_alloc ?_ _)); refine blk_far ?_ NB133_141.out _; (with_reducible repeat (first | refine blk_drewN ?_ _ | refine blk_drew ?_ | refine blk_alloc ?_ _)); refine blk_far ?_ NB133_141.out _; (with_reducible repeat (first | refine blk_drewN ?_ _ | refine blk_drew ?_ | refine blk_alloc ?_ _)); refine blk_far ?_ NB133_141.out _; (with_reducible repeat (first | refine blk_drewN ?_ _ | refine blk_drew ?_ | refine blk_alloc ?_ _)); exact BK133.out⟩, ⟨by (with_reducible repeat (first | refine blk_drewN ?_ _ | refine blk_drew ?_ | refine blk_alloc ?_ _)); refine blk_far ?_ NB140_141.out _; (with_reducible repeat (first | refine blk_drewN ?_ _ | refine blk_drew ?_ | refine blk_alloc ?_ _)); refine blk_far ?_ NB140_141.out _; (with_reducible repeat (first | refine blk_drewN ?_ _ | refine blk_drew ?_ | refine blk_alloc ?_ _)); refine blk_far ?_ NB140_141.out _; (with_reducible repeat (first | refine blk_drewN ?_ _ | refine blk_drew ?_ | refine blk_alloc ?_ _)); refine blk_far ?_ NB140_141.out _; (with_reducible repeat (first | refine blk_drewN ?_ _ | refine blk_drew ?_ | refine blk_alloc ?_ _)); refine blk_far ?_ NB140_141.out _; (with_reducible repeat (first | refine blk_drewN ?_ _ | refine blk_drew ?_ | refine blk_alloc ?_ _)); refine blk_far ?_ NB140_141.out _; (with_reducible repeat (first | refine blk_drewN ?_ _ | refine blk_drew ?_ | refine blk_alloc ?_ _)); refine blk_far ?_ NB140_141.out _; (with_reducible repeat (first | refine blk_drewN ?_ _ | refine blk_drew ?_ | refine blk_alloc ?_ _)); exact BK140.out⟩, ⟨by (with_reducible repeat (first | refine blk_drewN ?_ _ | refine blk_drew ?_ | refine blk_alloc ?_ _)); refine blk_put (cs := #[.int .u8 t134, .int .u8 t135, .int .u8 t136, .int .u16 t137, .bool false, .bool t139]) ?_ 0 _ rfl; (with_reducible repeat (first | refine blk_drewN ?_ _ | refine blk_drew ?_ | refine blk_alloc ?_ _)); refine blk_put (cs := #[.int .u8 t134, .int .u8 t135, .int .u8 t136, .int .u16 t137, .bool false, .bool false]) ?_ 5 _ rfl; (with_reducible repeat (first | refine blk_drewN ?_ _ | refine blk_drew ?_ | refine blk_alloc ?_ _)); refine blk_put (cs := #[.int .u8 t134, .int .u8 t135, .int .u8 t136, .int .u16 t137, .bool false, .bool false]) ?_ 4 _ rfl; (with_reducible repeat (first | refine blk_drewN ?_ _ | refine blk_drew ?_ | refine blk_alloc ?_ _)); refine blk_put (cs := #[.int .u8 t134, .int .u8 t135, .int .u8 t136, .int .u16 0, .bool false, .bool false]) ?_ 3 _ rfl; (with_reducible repeat (first | refine blk_drewN ?_ _ | refine blk_drew ?_ | refine blk_alloc ?_ _)); refine blk_put (cs := #[.int .u8 t134, .int .u8 t135, .int .u8 0, .int .u16 0, .bool false, .bool false]) ?_ 2 _ rfl; (with_reducible repeat (first | refine blk_drewN ?_ _ | refine blk_drew ?_ | refine blk_alloc ?_ _)); refine blk_put (cs := #[.int .u8 t134, .int .u8 0, .int .u8 0, .int .u16 0, .bool false, .bool false]) ?_ 1 _ rfl; (with_reducible repeat (first | refine blk_drewN ?_ _ | refine blk_drew ?_ | refine blk_alloc ?_ _)); refine blk_put (cs := #[.int .u8 0, .int .u8 0, .int .u8 0, .int .u16 0, .bool false, .bool false]) ?_ 0 _ rfl; (with_reducible repeat (first | refine blk_drewN ?_ _ | refine blk_drew ?_ | refine blk_alloc ?_ _)); exact BK141.out⟩, ⟨by repeat (first | (with_reducible first | exact HB.out | apply below_alloc | apply pw_below_drewN | apply below_drew1 | refine below_set ?_ GE132.out | refine below_set ?_ GE133.out | refine below_set ?_ GE140.out | refine below_set ?_ GE141.out) | exact HB.out)⟩⟩
    case rest =>
      clear HC15
      try clear c1
      try clear c2
      try clear p2
      try clear c3
      try clear c6
      try clear c10
      try clear c11
      try clear c14
      try clear c16
      try clear c18
      try clear c22
      try clear c23
      try clear c26
      try clear c27
      try clear c28
      try clear c31
      try clear c31b0
      try clear c31b1
      try clear c33
      try clear c34
      try clear c35
      try clear c37
      try clear c38
      try clear hcz12_0
      try clear hcz12_1
      try clear hcz12_2
      try clear hcz12_3
      try clear hcz12_4
      try clear hcz12_5
      try clear hcz13_0
      try clear hcz13_1
      try clear hcz13_2
      try clear hcz13_3
      try clear hcz13_4
      try clear hcz13_5
      try clear hcz19_0
      try clear hcz19_1
      try clear hcz19_2
      try clear hcz19_3
      try clear hcz19_4
      try clear hcz19_5
      try clear hcz24_0
      try clear hcz24_1
      try clear hcz24_2
      try clear hcz24_3
      try clear hcz24_4
      try clear hcz24_5
      try clear hcz29_0
      try clear hcz29_1
      try clear hcz29_2
      try clear hcz29_3
      try clear hcz29_4
      try clear hcz29_5
      try clear hcz30_0
      try clear hcz30_1
      try clear hcz30_2
      try clear hcz30_3
      try clear hcz30_4
      try clear hcz30_5
      try clear hcz36_0
      try clear hcz36_1
      try clear hcz36_2
      try clear hcz36_3
      try clear hcz36_4
      try clear hcz36_5
      try clear hcz39_0
      try clear hcz39_1
      try clear hcz39_2
      try clear hcz39_3
      try clear hcz39_4
      try clear hcz39_5
      try clear hcz7_0
      try clear hcz7_1
      try clear hcz7_2
      try clear hcz7_3
      try clear hcz7_4
      try clear hcz7_5
      try clear hfz12_0
      try clear hfz12_1
      try clear hfz12_2
      try clear hfz12_3
      try clear hfz12_4
      try clear hfz12_5
      try clear hfz13_0
      try clear hfz13_1
      try clear hfz13_2
      try clear hfz13_3
      try clear hfz13_4
      try clear hfz13_5
      try clear hfz19_0
      try clear hfz19_1
      try clear hfz19_2
      try clear hfz19_3
      try clear hfz19_4
      try clear hfz19_5
      try clear hfz24_0
      try clear hfz24_1
      try clear hfz24_2
      try clear hfz24_3
      try clear hfz24_4
      try clear hfz24_5
      try clear hfz29_0
      try clear hfz29_1
      try clear hfz29_2
      try clear hfz29_3
      try clear hfz29_4
      try clear hfz29_5
      try clear hfz30_0
      try clear hfz30_1
      try clear hfz30_2
      try clear hfz30_3
      try clear hfz30_4
      try clear hfz30_5
      try clear hfz36_0
      try clear hfz36_1
      try clear hfz36_2
      try clear hfz36_3
      try clear hfz36_4
      try clear hfz36_5
      try clear hfz39_0
      try clear hfz39_1
      try clear hfz39_2
      try clear hfz39_3
      try clear hfz39_4
      try clear hfz39_5
      try clear hfz7_0
      try clear hfz7_1
      try clear hfz7_2
      try clear hfz7_3
      try clear hfz7_4
      try clear hfz7_5
      obtain ⟨kq, x142001_14, HA, HJ14, BK132, BK133, BK140, BK141, HB⟩ := hcut
      cases kq with
      | zero => exact absurd HA.out (by simp [whirligigref09_Tick.j0])
      | succ kj14 =>
        have H := HA.out
        clear HA
        simp only [whirligigref09_Tick.j0] at H
        have HC40 := Aside0.mk H
        clear H
        go_upto_region 8 with (fail)
        go_cut [29] (fun v29 wc => ∃ (kq : Nat) (x29_39 : Bool), v29 = .bool x29_39 ∧ Aside0 (whirligigref09_Tick.j1 kq x29_39 t134 t135 t136 t137 false t139 t142 x142001_14 t136 t137 false t139 = some (r1, r2, r3, r4, r5, r6)) ∧ Aside0 (kq ≤ kj14) ∧ Aside0 (wc.heap[gb132]? = some (.cells #[.int .u8 a0_0, .int .u8 a0_1, .int .u8 a0_2, .int .u16 a0_3, .bool a0_4, .bool a0_5] 24 (0, 0))) ∧ Aside0 (wc.heap[gb133]? = some (.cells #[.int .u8 0, .int .u8 0, .int .u8 0, .int .u16 0, .bool false, .bool false] 24 (0, 0))) ∧ Aside0 (wc.heap[gb140]? = some (.cells #[.int .u8 t134, .int .u8 t135, .int .u8 t136, .int .u16 t137, .bool false, .bool t139] 24 (0, 0))) ∧ Aside0 (wc.heap[gb141]? = some (.cells #[.int .u8 t142, .int .u8 x142001_14, .int .u8 t136, .int .u16 t137, .bool false, .bool t139] 24 (0, 0))) ∧ Aside0 (Below w.heap.size w wc))
        case first =>
          have H := HC40.out
          clear HC40
          by_cases c41 : t134 = 59
          · rw [if_pos c41] at H
            have c41b0 : (t134 == 59) = true := beq_iff_eq.mpr c41
            have c41b1 : (t134 != 59) = false := bne_eq_false_iff_eq.mpr c41
            clear c41
            (first | rw [c41b0] | (simp only [i64_w, i32_w]; rw [c41b0]) | skip)
            have H' := Aside0.mk H
            clear H
            have hnb42 := NB140_132.out
            have hnc42 := NB132_140.out
            have hnb43 := NB140_133.out
            have hnc43 := NB133_140.out
            have hnb44 := NB140_141.out
            have hnc44 := NB141_140.out
            have hcz45_0 : wc.cell? ⟨gb140, 0, none⟩ = some (.int .u8 t134) := (blk_cell BK140.out 0).trans rfl
            have hcz45_1 : wc.cell? ⟨gb140, 1, none⟩ = some (.int .u8 t135) := (blk_cell BK140.out 1).trans rfl
            have hcz45_2 : wc.cell? ⟨gb140, 2, none⟩ = some (.int .u8 t136) := (blk_cell BK140.out 2).trans rfl
            have hcz45_3 : wc.cell? ⟨gb140, 3, none⟩ = some (.int .u16 t137) := (blk_cell BK140.out 3).trans rfl
            have hcz45_4 : wc.cell? ⟨gb140, 4, none⟩ = some (.bool false) := (blk_cell BK140.out 4).trans rfl
            have hcz45_5 : wc.cell? ⟨gb140, 5, none⟩ = some (.bool t139) := (blk_cell BK140.out 5).trans rfl
            have hfz45_0 := blk_frozen BK140.out 0
            have hfz45_1 := blk_frozen BK140.out 1
            have hfz45_2 := blk_frozen BK140.out 2
            have hfz45_3 := blk_frozen BK140.out 3
            have hfz45_4 := blk_frozen BK140.out 4
            have hfz45_5 := blk_frozen BK140.out 5
            go_wp2
            go_meet
            case rel => exact ⟨_, ((t135 == 59)), (by first | rfl | (simp; done) | (simp [*]; done)), H', ⟨by have := HJ14.out; first | omega | exact Nat.le_refl _⟩, ⟨by (with_reducible repeat (first | refine blk_drewN ?_ _ | refine blk_drew ?_ | refine blk_alloc ?_ _)); exact BK132.out⟩, ⟨by (with_reducible repeat (first | refine blk_drewN ?_ _ | refine blk_drew ?_ | refine blk_alloc ?_ _)); exact BK133.out⟩, ⟨by (with_reducible repeat (first | refine blk_drewN ?_ _ | refine blk_drew ?_ | refine blk_alloc ?_ _)); exact BK140.out⟩, ⟨by (with_reducible repeat (first | refine blk_drewN ?_ _ | refine blk_drew ?_ | refine blk_alloc ?_ _)); exact BK141.out⟩, ⟨by repeat (first | (with_reducible first | exact HB.out | apply below_alloc | apply pw_below_drewN | apply below_drew1 | refine below_set ?_ GE132.out | refine below_set ?_ GE133.out | refine below_set ?_ GE140.out | refine below_set ?_ GE141.out) | exact HB.out)⟩⟩
          · rw [if_neg c41] at H
            have c41b0 : (t134 == 59) = false := beq_eq_false_iff_ne.mpr c41
            have c41b1 : (t134 != 59) = true := bne_iff_ne.mpr c41
            (first | rw [c41b0] | (simp only [i64_w, i32_w]; rw [c41b0]) | skip)
            have H' := Aside0.mk H
            clear H
            have hnb46 := NB140_132.out
            have hnc46 := NB132_140.out
            have hnb47 := NB140_133.out
            have hnc47 := NB133_140.out
            have hnb48 := NB140_141.out
            have hnc48 := NB141_140.out
            have hcz49_0 : wc.cell? ⟨gb140, 0, none⟩ = some (.int .u8 t134) := (blk_cell BK140.out 0).trans rfl
            have hcz49_1 : wc.cell? ⟨gb140, 1, none⟩ = some (.int .u8 t135) := (blk_cell BK140.out 1).trans rfl
            have hcz49_2 : wc.cell? ⟨gb140, 2, none⟩ = some (.int .u8 t136) := (blk_cell BK140.out 2).trans rfl
            have hcz49_3 : wc.cell? ⟨gb140, 3, none⟩ = some (.int .u16 t137) := (blk_cell BK140.out 3).trans rfl
            have hcz49_4 : wc.cell? ⟨gb140, 4, none⟩ = some (.bool false) := (blk_cell BK140.out 4).trans rfl
            have hcz49_5 : wc.cell? ⟨gb140, 5, none⟩ = some (.bool t139) := (blk_cell BK140.out 5).trans rfl
            have hfz49_0 := blk_frozen BK140.out 0
            have hfz49_1 := blk_frozen BK140.out 1
            have hfz49_2 := blk_frozen BK140.out 2
            have hfz49_3 := blk_frozen BK140.out 3
            have hfz49_4 := blk_frozen BK140.out 4
            have hfz49_5 := blk_frozen BK140.out 5
            go_wp2
            go_meet
            case rel => exact ⟨_, (false), (by first | rfl | (simp; done) | (simp [*]; done)), H', ⟨by have := HJ14.out; first | omega | exact Nat.le_refl _⟩, ⟨by (with_reducible repeat (first | refine blk_drewN ?_ _ | refine blk_drew ?_ | refine blk_alloc ?_ _)); exact BK132.out⟩, ⟨by (with_reducible repeat (first | refine blk_drewN ?_ _ | refine blk_drew ?_ | refine blk_alloc ?_ _)); exact BK133.out⟩, ⟨by (with_reducible repeat (first | refine blk_drewN ?_ _ | refine blk_drew ?_ | refine blk_alloc ?_ _)); exact BK140.out⟩, ⟨by (with_reducible repeat (first | refine blk_drewN ?_ _ | refine blk_drew ?_ | refine blk_alloc ?_ _)); exact BK141.out⟩, ⟨by repeat (first | (with_reducible first | exact HB.out | apply below_alloc | apply pw_below_drewN | apply below_drew1 | refine below_set ?_ GE132.out | refine below_set ?_ GE133.out | refine below_set ?_ GE140.out | refine below_set ?_ GE141.out) | exact HB.out)⟩⟩
        case rest =>
          clear HC40
          try clear c1
          try clear c2
          try clear p2
          try clear c3
          try clear c4
          try clear c6
          try clear c10
          try clear c11
          try clear c14
          try clear c16
          try clear c18
          try clear c22
          try clear c23
          try clear c26
          try clear c27
          try clear c28
          try clear c31
          try clear c31b0
          try clear c31b1
          try clear c33
          try clear c34
          try clear c35
          try clear c37
          try clear c38
          try clear c41
          try clear c41b0
          try clear c41b1
          try clear c42
          try clear c43
          try clear c44
          try clear c46
          try clear c47
          try clear c48
          try clear hcz12_0
          try clear hcz12_1
          try clear hcz12_2
          try clear hcz12_3
          try clear hcz12_4
          try clear hcz12_5
          try clear hcz13_0
          try clear hcz13_1
          try clear hcz13_2
          try clear hcz13_3
          try clear hcz13_4
          try clear hcz13_5
          try clear hcz19_0
          try clear hcz19_1
          try clear hcz19_2
          try clear hcz19_3
          try clear hcz19_4
          try clear hcz19_5
          try clear hcz24_0
          try clear hcz24_1
          try clear hcz24_2
          try clear hcz24_3
          try clear hcz24_4
          try clear hcz24_5
          try clear hcz29_0
          try clear hcz29_1
          try clear hcz29_2
          try clear hcz29_3
          try clear hcz29_4
          try clear hcz29_5
          try clear hcz30_0
          try clear hcz30_1
          try clear hcz30_2
          try clear hcz30_3
          try clear hcz30_4
          try clear hcz30_5
          try clear hcz36_0
          try clear hcz36_1
          try clear hcz36_2
          try clear hcz36_3
          try clear hcz36_4
          try clear hcz36_5
          try clear hcz39_0
          try clear hcz39_1
          try clear hcz39_2
          try clear hcz39_3
          try clear hcz39_4
          try clear hcz39_5
          try clear hcz45_0
          try clear hcz45_1
          try clear hcz45_2
          try clear hcz45_3
          try clear hcz45_4
          try clear hcz45_5
          try clear hcz49_0
          try clear hcz49_1
          try clear hcz49_2
          try clear hcz49_3
          try clear hcz49_4
          try clear hcz49_5
          try clear hcz7_0
          try clear hcz7_1
          try clear hcz7_2
          try clear hcz7_3
          try clear hcz7_4
          try clear hcz7_5
          try clear hfz12_0
          try clear hfz12_1
          try clear hfz12_2
          try clear hfz12_3
          try clear hfz12_4
          try clear hfz12_5
          try clear hfz13_0
          try clear hfz13_1
          try clear hfz13_2
          try clear hfz13_3
          try clear hfz13_4
          try clear hfz13_5
          try clear hfz19_0
          try clear hfz19_1
          try clear hfz19_2
          try clear hfz19_3
          try clear hfz19_4
          try clear hfz19_5
          try clear hfz24_0
          try clear hfz24_1
          try clear hfz24_2
          try clear hfz24_3
          try clear hfz24_4
          try clear hfz24_5
          try clear hfz29_0
          try clear hfz29_1
          try clear hfz29_2
          try clear hfz29_3
          try clear hfz29_4
          try clear hfz29_5
          try clear hfz30_0
          try clear hfz30_1
          try clear hfz30_2
          try clear hfz30_3
          try clear hfz30_4
          try clear hfz30_5
          try clear hfz36_0
          try clear hfz36_1
          try clear hfz36_2
          try clear hfz36_3
          try clear hfz36_4
          try clear hfz36_5
          try clear hfz39_0
          try clear hfz39_1
          try clear hfz39_2
          try clear hfz39_3
          try clear hfz39_4
          try clear hfz39_5
          try clear hfz45_0
          try clear hfz45_1
          try clear hfz45_2
          try clear hfz45_3
          try clear hfz45_4
          try clear hfz45_5
          try clear hfz49_0
          try clear hfz49_1
          try clear hfz49_2
          try clear hfz49_3
          try clear hfz49_4
          try clear hfz49_5
          try clear hfz7_0
          try clear hfz7_1
          try clear hfz7_2
          try clear hfz7_3
          try clear hfz7_4
          try clear hfz7_5
          try clear p2
          obtain ⟨kq, x29_39, rfl, HA, HJ39, BK132, BK133, BK140, BK141, HB⟩ := hcut
          cases kq with
          | zero => exact absurd HA.out (by simp [whirligigref09_Tick.j1])
          | succ kj39 =>
            have H := HA.out
            clear HA
            simp only [whirligigref09_Tick.j1] at H
            have HC50 := Aside0.mk H
            clear H
            go_upto_if 29 with (fail)
            go_cut [] (fun wc => ∃ (kq : Nat) (x142002_49 : Int), Aside0 (whirligigref09_Tick.j2 kq t134 t135 t136 t137 false t139 t142 x142001_14 x142002_49 t137 false t139 = some (r1, r2, r3, r4, r5, r6)) ∧ Aside0 (kq ≤ kj39) ∧ Aside0 (wc.heap[gb132]? = some (.cells #[.int .u8 a0_0, .int .u8 a0_1, .int .u8 a0_2, .int .u16 a0_3, .bool a0_4, .bool a0_5] 24 (0, 0))) ∧ Aside0 (wc.heap[gb133]? = some (.cells #[.int .u8 0, .int .u8 0, .int .u8 0, .int .u16 0, .bool false, .bool false] 24 (0, 0))) ∧ Aside0 (wc.heap[gb140]? = some (.cells #[.int .u8 t134, .int .u8 t135, .int .u8 t136, .int .u16 t137, .bool false, .bool t139] 24 (0, 0))) ∧ Aside0 (wc.heap[gb141]? = some (.cells #[.int .u8 t142, .int .u8 x142001_14, .int .u8 x142002_49, .int .u16 t137, .bool false, .bool t139] 24 (0, 0))) ∧ Aside0 (Below w.heap.size w wc))
            case first =>
              have H := HC50.out
              clear HC50
              by_cases c51 : x29_39 = true
              · subst c51
                have H1 : ((whirligigref09_on.f t136 23 32).bind fun t144 => (whirligigref09_Tick.j2 kj39 t134 t135 t136 t137 false t139 t142 x142001_14 t144 t137 false t139)) = some (r1, r2, r3, r4, r5, r6) := by rw [if_pos rfl] at H; exact H
                clear H
                have H := H1
                clear H1
                replace H := Option.bind_eq_some_iff.mp H
                obtain ⟨t144, A520, H⟩ := H
                replace H : (whirligigref09_Tick.j2 kj39 t134 t135 t136 t137 false t139 t142 x142001_14 t144 t137 false t139) = some (r1, r2, r3, r4, r5, r6) := H
                have A52 := Aside0.mk A520
                clear A520
                have H' := Aside0.mk H
                clear H
                have hnb53 := NB140_132.out
                have hnc53 := NB132_140.out
                have hnb54 := NB140_133.out
                have hnc54 := NB133_140.out
                have hnb55 := NB140_141.out
                have hnc55 := NB141_140.out
                have hcz56_0 : wc.cell? ⟨gb140, 0, none⟩ = some (.int .u8 t134) := (blk_cell BK140.out 0).trans rfl
                have hcz56_1 : wc.cell? ⟨gb140, 1, none⟩ = some (.int .u8 t135) := (blk_cell BK140.out 1).trans rfl
                have hcz56_2 : wc.cell? ⟨gb140, 2, none⟩ = some (.int .u8 t136) := (blk_cell BK140.out 2).trans rfl
                have hcz56_3 : wc.cell? ⟨gb140, 3, none⟩ = some (.int .u16 t137) := (blk_cell BK140.out 3).trans rfl
                have hcz56_4 : wc.cell? ⟨gb140, 4, none⟩ = some (.bool false) := (blk_cell BK140.out 4).trans rfl
                have hcz56_5 : wc.cell? ⟨gb140, 5, none⟩ = some (.bool t139) := (blk_cell BK140.out 5).trans rfl
                have hfz56_0 := blk_frozen BK140.out 0
                have hfz56_1 := blk_frozen BK140.out 1
                have hfz56_2 := blk_frozen BK140.out 2
                have hfz56_3 := blk_frozen BK140.out 3
                have hfz56_4 := blk_frozen BK140.out 4
                have hfz56_5 := blk_frozen BK140.out 5
                go_wp2_with (first | ((with_reducible refine gate_callee (f := 28) rfl ?_); refine goesL_ (some 32) rfl rfl Try.func28 (by kernel_rfl) rfl #[.int .u8 t136, .int .u8 23, .int .u8 32] rfl (by (try simp only [List.map_toArray, List.map_cons, List.map_nil]); first | done | rfl | (simp only [List.length_drop, List.length_take]; rfl)) ?_; (with_reducible refine (whirligigref09_on.calls t136 23 32 t144 _ A52.out).mono ?_); rintro e w' ⟨rfl, ⟨nd, rfl⟩⟩; refine ⟨_, rfl, ?_⟩; (try (rw [drewN_self wc]; generalize hq_ : World.drewN wc _ = wc; have n0_ : Aside0 (wc.heap[gb132]? = some (.cells #[.int .u8 a0_0, .int .u8 a0_1, .int .u8 a0_2, .int .u16 a0_3, .bool a0_4, .bool a0_5] 24 (0, 0))) := ⟨by rw [← hq_]; exact (by (with_reducible repeat (first | refine blk_drewN ?_ _ | refine blk_drew ?_ | refine blk_alloc ?_ _)); exact BK132.out)⟩; have n1_ : Aside0 (wc.heap[gb133]? = some (.cells #[.int .u8 0, .int .u8 0, .int .u8 0, .int .u16 0, .bool false, .bool false] 24 (0, 0))) := ⟨by rw [← hq_]; exact (by (with_reducible repeat (first | refine blk_drewN ?_ _ | refine blk_drew ?_ | refine blk_alloc ?_ _)); exact BK133.out)⟩; have n2_ : Aside0 (wc.heap[gb140]? = some (.cells #[.int .u8 t134, .int .u8 t135, .int .u8 t136, .int .u16 t137, .bool false, .bool t139] 24 (0, 0))) := ⟨by rw [← hq_]; exact (by (with_reducible repeat (first | refine blk_drewN ?_ _ | refine blk_drew ?_ | refine blk_alloc ?_ _)); exact BK140.out)⟩; have n3_ : Aside0 (wc.heap[gb141]? = some (.cells #[.int .u8 t142, .int .u8 x142001_14, .int .u8 t136, .int .u16 t137, .bool false, .bool t139] 24 (0, 0))) := ⟨by rw [← hq_]; exact (by (with_reducible repeat (first | refine blk_drewN ?_ _ | refine blk_drew ?_ | refine blk_alloc ?_ _)); exact BK141.out)⟩; have n4_ : Aside0 (Below w.heap.size w wc) := ⟨by rw [← hq_]; exact (by repeat (first | (with_reducible first | exact HB.out | apply below_alloc | apply pw_below_drewN | apply below_drew1 | refine below_set ?_ GE132.out | refine below_set ?_ GE133.out | refine below_set ?_ GE140.out | refine below_set ?_ GE141.out) | exact HB.out))⟩; clear BK132 BK133 BK140 BK141 HB hq_; have BK132 := n0_; have BK133 := n1_; have BK140 := n2_; have BK141 := n3_; have HB := n4_; clear n0_ n1_ n2_ n3_ n4_)); have hnb57 := NB141_132.out; have hnc57 := NB132_141.out; have hnb58 := NB141_133.out; have hnc58 := NB133_141.out; have hcz59_0 : wc.cell? ⟨gb141, 0, none⟩ = some (.int .u8 t142) := (blk_cell BK141.out 0).trans rfl; have hcz59_1 : wc.cell? ⟨gb141, 1, none⟩ = some (.int .u8 x142001_14) := (blk_cell BK141.out 1).trans rfl; have hcz59_2 : wc.cell? ⟨gb141, 2, none⟩ = some (.int .u8 t136) := (blk_cell BK141.out 2).trans rfl; have hcz59_3 : wc.cell? ⟨gb141, 3, none⟩ = some (.int .u16 t137) := (blk_cell BK141.out 3).trans rfl; have hcz59_4 : wc.cell? ⟨gb141, 4, none⟩ = some (.bool false) := (blk_cell BK141.out 4).trans rfl; have hcz59_5 : wc.cell? ⟨gb141, 5, none⟩ = some (.bool t139) := (blk_cell BK141.out 5).trans rfl; have hfz59_0 := blk_frozen BK141.out 0; have hfz59_1 := blk_frozen BK141.out 1; have hfz59_2 := blk_frozen BK141.out 2; have hfz59_3 := blk_frozen BK141.out 3; have hfz59_4 := blk_frozen BK141.out 4; have hfz59_5 := blk_frozen BK141.out 5))
                go_meet
                case rel => exact ⟨_, (t144), H', ⟨by have := HJ14.out; have := HJ39.out; first | omega | exact Nat.le_refl _⟩, ⟨by (with_reducible repeat (first | refine blk_drewN ?_ _ | refine blk_drew ?_ | refine blk_alloc ?_ _)); refine blk_far ?_ NB132_141.out _; (with_reducible repeat (first | refine blk_drewN ?_ _ | refine blk_drew ?_ | refine blk_alloc ?_ _)); exact BK132.out⟩, ⟨by (with_reducible repeat (first | refine blk_drewN ?_ _ | refine blk_drew ?_ | refine blk_alloc ?_ _)); refine blk_far ?_ NB133_141.out _; (with_reducible repeat (first | refine blk_drewN ?_ _ | refine blk_drew ?_ | refine blk_alloc ?_ _)); exact BK133.out⟩, ⟨by (with_reducible repeat (first | refine blk_drewN ?_ _ | refine blk_drew ?_ | refine blk_alloc ?_ _)); refine blk_far ?_ NB140_141.out _; (with_reducible repeat (first | refine blk_drewN ?_ _ | refine blk_drew ?_ | refine blk_alloc ?_ _)); exact BK140.out⟩, ⟨by (with_reducible repeat (first | refine blk_drewN ?_ _ | refine blk_drew ?_ | refine blk_alloc ?_ _)); refine blk_put (cs := #[.int .u8 t142, .int .u8 x142001_14, .int .u8 t136, .int .u16 t137, .bool false, .bool t139]) ?_ 2 _ rfl; (with_reducible repeat (first | refine blk_drewN ?_ _ | refine blk_drew ?_ | refine blk_alloc ?_ _)); exact BK141.out⟩, ⟨by repeat (first | (with_reducible first | exact HB.out | apply below_alloc | apply pw_below_drewN | apply below_drew1 | refine below_set ?_ GE132.out | refine below_set ?_ GE133.out | refine below_set ?_ GE140.out | refine below_set ?_ GE141.out) | exact HB.out)⟩⟩
              · replace c51 := Bool.eq_false_iff.mpr c51
                subst c51
                have H1 : (whirligigref09_Tick.j2 kj39 t134 t135 t136 t137 false t139 t142 x142001_14 t136 t137 false t139) = some (r1, r2, r3, r4, r5, r6) := by rw [if_neg (show ¬ (false = true) by decide)] at H; exact H
                clear H
                have H := H1
                clear H1
                have H' := Aside0.mk H
                clear H
                go_wp2
                go_meet
                case rel => exact ⟨_, (t136), H', ⟨by have := HJ14.out; have := HJ39.out; first | omega | exact Nat.le_refl _⟩, ⟨by (with_reducible repeat (first | refine blk_drewN ?_ _ | refine blk_drew ?_ | refine blk_alloc ?_ _)); exact BK132.out⟩, ⟨by (with_reducible repeat (first | refine blk_drewN ?_ _ | refine blk_drew ?_ | refine blk_alloc ?_ _)); exact BK133.out⟩, ⟨by (with_reducible repeat (first | refine blk_drewN ?_ _ | refine blk_drew ?_ | refine blk_alloc ?_ _)); exact BK140.out⟩, ⟨by (with_reducible repeat (first | refine blk_drewN ?_ _ | refine blk_drew ?_ | refine blk_alloc ?_ _)); exact BK141.out⟩, ⟨by repeat (first | (with_reducible first | exact HB.out | apply below_alloc | apply pw_below_drewN | apply below_drew1 | refine below_set ?_ GE132.out | refine below_set ?_ GE133.out | refine below_set ?_ GE140.out | refine below_set ?_ GE141.out) | exact HB.out)⟩⟩
            case rest =>
              clear HC50
              try clear c1
              try clear c2
              try clear p2
              try clear c3
              try clear c4
              try clear c5
              try clear c6
              try clear c10
              try clear c11
              try clear c14
              try clear c16
              try clear c18
              try clear c22
              try clear c23
              try clear c26
              try clear c27
              try clear c28
              try clear c31
              try clear c31b0
              try clear c31b1
              try clear c33
              try clear c34
              try clear c35
              try clear c37
              try clear c38
              try clear c41
              try clear c41b0
              try clear c41b1
              try clear c42
              try clear c43
              try clear c44
              try clear c46
              try clear c47
              try clear c48
              try clear c51
              try clear c53
              try clear c54
              try clear c55
              try clear c57
              try clear c58
              try clear hcz12_0
              try clear hcz12_1
              try clear hcz12_2
              try clear hcz12_3
              try clear hcz12_4
              try clear hcz12_5
              try clear hcz13_0
              try clear hcz13_1
              try clear hcz13_2
              try clear hcz13_3
              try clear hcz13_4
              try clear hcz13_5
              try clear hcz19_0
              try clear hcz19_1
              try clear hcz19_2
              try clear hcz19_3
              try clear hcz19_4
              try clear hcz19_5
              try clear hcz24_0
              try clear hcz24_1
              try clear hcz24_2
              try clear hcz24_3
              try clear hcz24_4
              try clear hcz24_5
              try clear hcz29_0
              try clear hcz29_1
              try clear hcz29_2
              try clear hcz29_3
              try clear hcz29_4
              try clear hcz29_5
              try clear hcz30_0
              try clear hcz30_1
              try clear hcz30_2
              try clear hcz30_3
              try clear hcz30_4
              try clear hcz30_5
              try clear hcz36_0
              try clear hcz36_1
              try clear hcz36_2
              try clear hcz36_3
              try clear hcz36_4
              try clear hcz36_5
              try clear hcz39_0
              try clear hcz39_1
              try clear hcz39_2
              try clear hcz39_3
              try clear hcz39_4
              try clear hcz39_5
              try clear hcz45_0
              try clear hcz45_1
              try clear hcz45_2
              try clear hcz45_3
              try clear hcz45_4
              try clear hcz45_5
              try clear hcz49_0
              try clear hcz49_1
              try clear hcz49_2
              try clear hcz49_3
              try clear hcz49_4
              try clear hcz49_5
              try clear hcz56_0
              try clear hcz56_1
              try clear hcz56_2
              try clear hcz56_3
              try clear hcz56_4
              try clear hcz56_5
              try clear hcz59_0
              try clear hcz59_1
              try clear hcz59_2
              try clear hcz59_3
              try clear hcz59_4
              try clear hcz59_5
              try clear hcz7_0
              try clear hcz7_1
              try clear hcz7_2
              try clear hcz7_3
              try clear hcz7_4
              try clear hcz7_5
              try clear hfz12_0
              try clear hfz12_1
              try clear hfz12_2
              try clear hfz12_3
              try clear hfz12_4
              try clear hfz12_5
              try clear hfz13_0
              try clear hfz13_1
              try clear hfz13_2
              try clear hfz13_3
              try clear hfz13_4
              try clear hfz13_5
              try clear hfz19_0
              try clear hfz19_1
              try clear hfz19_2
              try clear hfz19_3
              try clear hfz19_4
              try clear hfz19_5
              try clear hfz24_0
              try clear hfz24_1
              try clear hfz24_2
              try clear hfz24_3
              try clear hfz24_4
              try clear hfz24_5
              try clear hfz29_0
              try clear hfz29_1
              try clear hfz29_2
              try clear hfz29_3
              try clear hfz29_4
              try clear hfz29_5
              try clear hfz30_0
              try clear hfz30_1
              try clear hfz30_2
              try clear hfz30_3
              try clear hfz30_4
              try clear hfz30_5
              try clear hfz36_0
              try clear hfz36_1
              try clear hfz36_2
              try clear hfz36_3
              try clear hfz36_4
              try clear hfz36_5
              try clear hfz39_0
              try clear hfz39_1
              try clear hfz39_2
              try clear hfz39_3
              try clear hfz39_4
              try clear hfz39_5
              try clear hfz45_0
              try clear hfz45_1
              try clear hfz45_2
              try clear hfz45_3
              try clear hfz45_4
              try clear hfz45_5
              try clear hfz49_0
              try clear hfz49_1
              try clear hfz49_2
              try clear hfz49_3
              try clear hfz49_4
              try clear hfz49_5
              try clear hfz56_0
              try clear hfz56_1
              try clear hfz56_2
              try clear hfz56_3
              try clear hfz56_4
              try clear hfz56_5
              try clear hfz59_0
              try clear hfz59_1
              try clear hfz59_2
              try clear hfz59_3
              try clear hfz59_4
              try clear hfz59_5
              try clear hfz7_0
              try clear hfz7_1
              try clear hfz7_2
              try clear hfz7_3
              try clear hfz7_4
              try clear hfz7_5
              try clear p2
              obtain ⟨kq, x142002_49, HA, HJ49, BK132, BK133, BK140, BK141, HB⟩ := hcut
              cases kq with
              | zero => exact absurd HA.out (by simp [whirligigref09_Tick.j2])
              | succ kj49 =>
                have H := HA.out
                clear HA
                simp only [whirligigref09_Tick.j2] at H
                have HC60 := Aside0.mk H
                clear H
                go_upto_region 10 with (fail)
                go_cut [46] (fun v46 wc => ∃ (kq : Nat) (x46_59 : Bool), v46 = .bool x46_59 ∧ Aside0 (whirligigref09_Tick.j3 kq x46_59 t134 t135 t136 t137 false t139 t142 x142001_14 x142002_49 t137 false t139 = some (r1, r2, r3, r4, r5, r6)) ∧ Aside0 (kq ≤ kj49) ∧ Aside0 (wc.heap[gb132]? = some (.cells #[.int .u8 a0_0, .int .u8 a0_1, .int .u8 a0_2, .int .u16 a0_3, .bool a0_4, .bool a0_5] 24 (0, 0))) ∧ Aside0 (wc.heap[gb133]? = some (.cells #[.int .u8 0, .int .u8 0, .int .u8 0, .int .u16 0, .bool false, .bool false] 24 (0, 0))) ∧ Aside0 (wc.heap[gb140]? = some (.cells #[.int .u8 t134, .int .u8 t135, .int .u8 t136, .int .u16 t137, .bool false, .bool t139] 24 (0, 0))) ∧ Aside0 (wc.heap[gb141]? = some (.cells #[.int .u8 t142, .int .u8 x142001_14, .int .u8 x142002_49, .int .u16 t137, .bool false, .bool t139] 24 (0, 0))) ∧ Aside0 (Below w.heap.size w wc))
                case first =>
                  have H := HC60.out
                  clear HC60
                  by_cases c61 : t134 = 59
                  · rw [if_pos c61] at H
                    have c61b0 : (t134 == 59) = true := beq_iff_eq.mpr c61
                    have c61b1 : (t134 != 59) = false := bne_eq_false_iff_eq.mpr c61
                    clear c61
                    (first | rw [c61b0] | (simp only [i64_w, i32_w]; rw [c61b0]) | skip)
                    by_cases c62 : t135 = 59
                    · rw [if_pos c62] at H
                      have c62b0 : (t135 == 59) = true := beq_iff_eq.mpr c62
                      have c62b1 : (t135 != 59) = false := bne_eq_false_iff_eq.mpr c62
                      clear c62
                      have H' := Aside0.mk H
                      clear H
                      have hnb63 := NB140_132.out
                      have hnc63 := NB132_140.out
                      have hnb64 := NB140_133.out
                      have hnc64 := NB133_140.out
                      have hnb65 := NB140_141.out
                      have hnc65 := NB141_140.out
                      have hcz66_0 : wc.cell? ⟨gb140, 0, none⟩ = some (.int .u8 t134) := (blk_cell BK140.out 0).trans rfl
                      have hcz66_1 : wc.cell? ⟨gb140, 1, none⟩ = some (.int .u8 t135) := (blk_cell BK140.out 1).trans rfl
                      have hcz66_2 : wc.cell? ⟨gb140, 2, none⟩ = some (.int .u8 t136) := (blk_cell BK140.out 2).trans rfl
                      have hcz66_3 : wc.cell? ⟨gb140, 3, none⟩ = some (.int .u16 t137) := (blk_cell BK140.out 3).trans rfl
                      have hcz66_4 : wc.cell? ⟨gb140, 4, none⟩ = some (.bool false) := (blk_cell BK140.out 4).trans rfl
                      have hcz66_5 : wc.cell? ⟨gb140, 5, none⟩ = some (.bool t139) := (blk_cell BK140.out 5).trans rfl
                      have hfz66_0 := blk_frozen BK140.out 0
                      have hfz66_1 := blk_frozen BK140.out 1
                      have hfz66_2 := blk_frozen BK140.out 2
                      have hfz66_3 := blk_frozen BK140.out 3
                      have hfz66_4 := blk_frozen BK140.out 4
                      have hfz66_5 := blk_frozen BK140.out 5
                      go_wp2
                      go_meet
                      case rel => exact ⟨_, ((t136 == 23)), (by first | rfl | (simp; done) | (simp [*]; done)), H', ⟨by have := HJ14.out; have := HJ39.out; have := HJ49.out; first | omega | exact Nat.le_refl _⟩, ⟨by (with_reducible repeat (first | refine blk_drewN ?_ _ | refine blk_drew ?_ | refine blk_alloc ?_ _)); exact BK132.out⟩, ⟨by (with_reducible repeat (first | refine blk_drewN ?_ _ | refine blk_drew ?_ | refine blk_alloc ?_ _)); exact BK133.out⟩, ⟨by (with_reducible repeat (first | refine blk_drewN ?_ _ | refine blk_drew ?_ | refine blk_alloc ?_ _)); exact BK140.out⟩, ⟨by (with_reducible repeat (first | refine blk_drewN ?_ _ | refine blk_drew ?_ | refine blk_alloc ?_ _)); exact BK141.out⟩, ⟨by repeat (first | (with_reducible first | exact HB.out | apply below_alloc | apply pw_below_drewN | apply below_drew1 | refine below_set ?_ GE132.out | refine below_set ?_ GE133.out | refine below_set ?_ GE140.out | refine below_set ?_ GE141.out) | exact HB.out)⟩⟩
                    · rw [if_neg c62] at H
                      have c62b0 : (t135 == 59) = false := beq_eq_false_iff_ne.mpr c62
                      have c62b1 : (t135 != 59) = true := bne_iff_ne.mpr c62
                      have H' := Aside0.mk H
                      clear H
                      have hnb67 := NB140_132.out
                      have hnc67 := NB132_140.out
                      have hnb68 := NB140_133.out
                      have hnc68 := NB133_140.out
                      have hnb69 := NB140_141.out
                      have hnc69 := NB141_140.out
                      have hcz70_0 : wc.cell? ⟨gb140, 0, none⟩ = some (.int .u8 t134) := (blk_cell BK140.out 0).trans rfl
                      have hcz70_1 : wc.cell? ⟨gb140, 1, none⟩ = some (.int .u8 t135) := (blk_cell BK140.out 1).trans rfl
                      have hcz70_2 : wc.cell? ⟨gb140, 2, none⟩ = some (.int .u8 t136) := (blk_cell BK140.out 2).trans rfl
                      have hcz70_3 : wc.cell? ⟨gb140, 3, none⟩ = some (.int .u16 t137) := (blk_cell BK140.out 3).trans rfl
                      have hcz70_4 : wc.cell? ⟨gb140, 4, none⟩ = some (.bool false) := (blk_cell BK140.out 4).trans rfl
                      have hcz70_5 : wc.cell? ⟨gb140, 5, none⟩ = some (.bool t139) := (blk_cell BK140.out 5).trans rfl
                      have hfz70_0 := blk_frozen BK140.out 0
                      have hfz70_1 := blk_frozen BK140.out 1
                      have hfz70_2 := blk_frozen BK140.out 2
                      have hfz70_3 := blk_frozen BK140.out 3
                      have hfz70_4 := blk_frozen BK140.out 4
                      have hfz70_5 := blk_frozen BK140.out 5
                      go_wp2
                      go_meet
                      case rel => exact ⟨_, (false), (by first | rfl | (simp; done) | (simp [*]; done)), H', ⟨by have := HJ14.out; have := HJ39.out; have := HJ49.out; first | omega | exact Nat.le_refl _⟩, ⟨by (with_reducible repeat (first | refine blk_drewN ?_ _ | refine blk_drew ?_ | refine blk_alloc ?_ _)); exact BK132.out⟩, ⟨by (with_reducible repeat (first | refine blk_drewN ?_ _ | refine blk_drew ?_ | refine blk_alloc ?_ _)); exact BK133.out⟩, ⟨by (with_reducible repeat (first | refine blk_drewN ?_ _ | refine blk_drew ?_ | refine blk_alloc ?_ _)); exact BK140.out⟩, ⟨by (with_reducible repeat (first | refine blk_drewN ?_ _ | refine blk_drew ?_ | refine blk_alloc ?_ _)); exact BK141.out⟩, ⟨by repeat (first | (with_reducible first | exact HB.out | apply below_alloc | apply pw_below_drewN | apply below_drew1 | refine below_set ?_ GE132.out | refine below_set ?_ GE133.out | refine below_set ?_ GE140.out | refine below_set ?_ GE141.out) | exact HB.out)⟩⟩
                  · rw [if_neg c61] at H
                    have c61b0 : (t134 == 59) = false := beq_eq_false_iff_ne.mpr c61
                    have c61b1 : (t134 != 59) = true := bne_iff_ne.mpr c61
                    (first | rw [c61b0] | (simp only [i64_w, i32_w]; rw [c61b0]) | skip)
                    have H' := Aside0.mk H
                    clear H
                    have hnb71 := NB140_132.out
                    have hnc71 := NB132_140.out
                    have hnb72 := NB140_133.out
                    have hnc72 := NB133_140.out
                    have hnb73 := NB140_141.out
                    have hnc73 := NB141_140.out
                    have hcz74_0 : wc.cell? ⟨gb140, 0, none⟩ = some (.int .u8 t134) := (blk_cell BK140.out 0).trans rfl
                    have hcz74_1 : wc.cell? ⟨gb140, 1, none⟩ = some (.int .u8 t135) := (blk_cell BK140.out 1).trans rfl
                    have hcz74_2 : wc.cell? ⟨gb140, 2, none⟩ = some (.int .u8 t136) := (blk_cell BK140.out 2).trans rfl
                    have hcz74_3 : wc.cell? ⟨gb140, 3, none⟩ = some (.int .u16 t137) := (blk_cell BK140.out 3).trans rfl
                    have hcz74_4 : wc.cell? ⟨gb140, 4, none⟩ = some (.bool false) := (blk_cell BK140.out 4).trans rfl
                    have hcz74_5 : wc.cell? ⟨gb140, 5, none⟩ = some (.bool t139) := (blk_cell BK140.out 5).trans rfl
                    have hfz74_0 := blk_frozen BK140.out 0
                    have hfz74_1 := blk_frozen BK140.out 1
                    have hfz74_2 := blk_frozen BK140.out 2
                    have hfz74_3 := blk_frozen BK140.out 3
                    have hfz74_4 := blk_frozen BK140.out 4
                    have hfz74_5 := blk_frozen BK140.out 5
                    go_wp2
                    go_meet
                    case rel => exact ⟨_, (false), (by first | rfl | (simp; done) | (simp [*]; done)), H', ⟨by have := HJ14.out; have := HJ39.out; have := HJ49.out; first | omega | exact Nat.le_refl _⟩, ⟨by (with_reducible repeat (first | refine blk_drewN ?_ _ | refine blk_drew ?_ | refine blk_alloc ?_ _)); exact BK132.out⟩, ⟨by (with_reducible repeat (first | refine blk_drewN ?_ _ | refine blk_drew ?_ | refine blk_alloc ?_ _)); exact BK133.out⟩, ⟨by (with_reducible repeat (first | refine blk_drewN ?_ _ | refine blk_drew ?_ | refine blk_alloc ?_ _)); exact BK140.out⟩, ⟨by (with_reducible repeat (first | refine blk_drewN ?_ _ | refine blk_drew ?_ | refine blk_alloc ?_ _)); exact BK141.out⟩, ⟨by repeat (first | (with_reducible first | exact HB.out | apply below_alloc | apply pw_below_drewN | apply below_drew1 | refine below_set ?_ GE132.out | refine below_set ?_ GE133.out | refine below_set ?_ GE140.out | refine below_set ?_ GE141.out) | exact HB.out)⟩⟩
                case rest =>
                  clear HC60
                  try clear c1
                  try clear c2
                  try clear p2
                  try clear c3
                  try clear c4
                  try clear c5
                  try clear c6
                  try clear c7
                  try clear c10
                  try clear c11
                  try clear c14
                  try clear c16
                  try clear c18
                  try clear c22
                  try clear c23
                  try clear c26
                  try clear c27
                  try clear c28
                  try clear c31
                  try clear c31b0
                  try clear c31b1
                  try clear c33
                  try clear c34
                  try clear c35
                  try clear c37
                  try clear c38
                  try clear c41
                  try clear c41b0
                  try clear c41b1
                  try clear c42
                  try clear c43
                  try clear c44
                  try clear c46
                  try clear c47
                  try clear c48
                  try clear c51
                  try clear c53
                  try clear c54
                  try clear c55
                  try clear c57
                  try clear c58
                  try clear c61
                  try clear c61b0
                  try clear c61b1
                  try clear c62
                  try clear c62b0
                  try clear c62b1
                  try clear c63
                  try clear c64
                  try clear c65
                  try clear c67
                  try clear c68
                  try clear c69
                  try clear c71
                  try clear c72
                  try clear c73
                  try clear hcz12_0
                  try clear hcz12_1
                  try clear hcz12_2
                  try clear hcz12_3
                  try clear hcz12_4
                  try clear hcz12_5
                  try clear hcz13_0
                  try clear hcz13_1
                  try clear hcz13_2
                  try clear hcz13_3
                  try clear hcz13_4
                  try clear hcz13_5
                  try clear hcz19_0
                  try clear hcz19_1
                  try clear hcz19_2
                  try clear hcz19_3
                  try clear hcz19_4
                  try clear hcz19_5
                  try clear hcz24_0
                  try clear hcz24_1
                  try clear hcz24_2
                  try clear hcz24_3
                  try clear hcz24_4
                  try clear hcz24_5
                  try clear hcz29_0
                  try clear hcz29_1
                  try clear hcz29_2
                  try clear hcz29_3
                  try clear hcz29_4
                  try clear hcz29_5
                  try clear hcz30_0
                  try clear hcz30_1
                  try clear hcz30_2
                  try clear hcz30_3
                  try clear hcz30_4
                  try clear hcz30_5
                  try clear hcz36_0
                  try clear hcz36_1
                  try clear hcz36_2
                  try clear hcz36_3
                  try clear hcz36_4
                  try clear hcz36_5
                  try clear hcz39_0
                  try clear hcz39_1
                  try clear hcz39_2
                  try clear hcz39_3
                  try clear hcz39_4
                  try clear hcz39_5
                  try clear hcz45_0
                  try clear hcz45_1
                  try clear hcz45_2
                  try clear hcz45_3
                  try clear hcz45_4
                  try clear hcz45_5
                  try clear hcz49_0
                  try clear hcz49_1
                  try clear hcz49_2
                  try clear hcz49_3
                  try clear hcz49_4
                  try clear hcz49_5
                  try clear hcz56_0
                  try clear hcz56_1
                  try clear hcz56_2
                  try clear hcz56_3
                  try clear hcz56_4
                  try clear hcz56_5
                  try clear hcz59_0
                  try clear hcz59_1
                  try clear hcz59_2
                  try clear hcz59_3
                  try clear hcz59_4
                  try clear hcz59_5
                  try clear hcz66_0
                  try clear hcz66_1
                  try clear hcz66_2
                  try clear hcz66_3
                  try clear hcz66_4
                  try clear hcz66_5
                  try clear hcz70_0
                  try clear hcz70_1
                  try clear hcz70_2
                  try clear hcz70_3
                  try clear hcz70_4
                  try clear hcz70_5
                  try clear hcz74_0
                  try clear hcz74_1
                  try clear hcz74_2
                  try clear hcz74_3
                  try clear hcz74_4
                  try clear hcz74_5
                  try clear hcz7_0
                  try clear hcz7_1
                  try clear hcz7_2
                  try clear hcz7_3
                  try clear hcz7_4
                  try clear hcz7_5
                  try clear hfz12_0
                  try clear hfz12_1
                  try clear hfz12_2
                  try clear hfz12_3
                  try clear hfz12_4
                  try clear hfz12_5
                  try clear hfz13_0
                  try clear hfz13_1
                  try clear hfz13_2
                  try clear hfz13_3
                  try clear hfz13_4
                  try clear hfz13_5
                  try clear hfz19_0
                  try clear hfz19_1
                  try clear hfz19_2
                  try clear hfz19_3
                  try clear hfz19_4
                  try clear hfz19_5
                  try clear hfz24_0
                  try clear hfz24_1
                  try clear hfz24_2
                  try clear hfz24_3
                  try clear hfz24_4
                  try clear hfz24_5
                  try clear hfz29_0
                  try clear hfz29_1
                  try clear hfz29_2
                  try clear hfz29_3
                  try clear hfz29_4
                  try clear hfz29_5
                  try clear hfz30_0
                  try clear hfz30_1
                  try clear hfz30_2
                  try clear hfz30_3
                  try clear hfz30_4
                  try clear hfz30_5
                  try clear hfz36_0
                  try clear hfz36_1
                  try clear hfz36_2
                  try clear hfz36_3
                  try clear hfz36_4
                  try clear hfz36_5
                  try clear hfz39_0
                  try clear hfz39_1
                  try clear hfz39_2
                  try clear hfz39_3
                  try clear hfz39_4
                  try clear hfz39_5
                  try clear hfz45_0
                  try clear hfz45_1
                  try clear hfz45_2
                  try clear hfz45_3
                  try clear hfz45_4
                  try clear hfz45_5
                  try clear hfz49_0
                  try clear hfz49_1
                  try clear hfz49_2
                  try clear hfz49_3
                  try clear hfz49_4
                  try clear hfz49_5
                  try clear hfz56_0
                  try clear hfz56_1
                  try clear hfz56_2
                  try clear hfz56_3
                  try clear hfz56_4
                  try clear hfz56_5
                  try clear hfz59_0
                  try clear hfz59_1
                  try clear hfz59_2
                  try clear hfz59_3
                  try clear hfz59_4
                  try clear hfz59_5
                  try clear hfz66_0
                  try clear hfz66_1
                  try clear hfz66_2
                  try clear hfz66_3
                  try clear hfz66_4
                  try clear hfz66_5
                  try clear hfz70_0
                  try clear hfz70_1
                  try clear hfz70_2
                  try clear hfz70_3
                  try clear hfz70_4
                  try clear hfz70_5
                  try clear hfz74_0
                  try clear hfz74_1
                  try clear hfz74_2
                  try clear hfz74_3
                  try clear hfz74_4
                  try clear hfz74_5
                  try clear hfz7_0
                  try clear hfz7_1
                  try clear hfz7_2
                  try clear hfz7_3
                  try clear hfz7_4
                  try clear hfz7_5
                  try clear p2
                  obtain ⟨kq, x46_59, rfl, HA, HJ59, BK132, BK133, BK140, BK141, HB⟩ := hcut
                  cases kq with
                  | zero => exact absurd HA.out (by simp [whirligigref09_Tick.j3])
                  | succ kj59 =>
                    have H := HA.out
                    clear HA
                    simp only [whirligigref09_Tick.j3] at H
                    by_cases c75 : x46_59 = true
                    · subst c75
                      have H1 : (if t137 = 511 then (some (t142, x142001_14, x142002_49, 0, false, true)) else (some (t142, x142001_14, x142002_49, IntKind.u16.wrap (t137 + 1), false, t139))) = some (r1, r2, r3, r4, r5, r6) := by rw [if_pos rfl] at H; exact H
                      clear H
                      have H := H1
                      clear H1
                      by_cases c76 : t137 = 511
                      · rw [if_pos c76] at H
                        have c76b0 : (t137 == 511) = true := beq_iff_eq.mpr c76
                        have c76b1 : (t137 != 511) = false := bne_eq_false_iff_eq.mpr c76
                        clear c76
                        simp only [Option.some.injEq, Prod.mk.injEq] at H
                        obtain ⟨rfl, rfl, rfl, rfl, rfl, rfl⟩ := H
                        have hnb77 := NB140_132.out
                        have hnc77 := NB132_140.out
                        have hnb78 := NB140_133.out
                        have hnc78 := NB133_140.out
                        have hnb79 := NB140_141.out
                        have hnc79 := NB141_140.out
                        have hcz80_0 : wc.cell? ⟨gb140, 0, none⟩ = some (.int .u8 t134) := (blk_cell BK140.out 0).trans rfl
                        have hcz80_1 : wc.cell? ⟨gb140, 1, none⟩ = some (.int .u8 t135) := (blk_cell BK140.out 1).trans rfl
                        have hcz80_2 : wc.cell? ⟨gb140, 2, none⟩ = some (.int .u8 t136) := (blk_cell BK140.out 2).trans rfl
                        have hcz80_3 : wc.cell? ⟨gb140, 3, none⟩ = some (.int .u16 t137) := (blk_cell BK140.out 3).trans rfl
                        have hcz80_4 : wc.cell? ⟨gb140, 4, none⟩ = some (.bool false) := (blk_cell BK140.out 4).trans rfl
                        have hcz80_5 : wc.cell? ⟨gb140, 5, none⟩ = some (.bool t139) := (blk_cell BK140.out 5).trans rfl
                        have hfz80_0 := blk_frozen BK140.out 0
                        have hfz80_1 := blk_frozen BK140.out 1
                        have hfz80_2 := blk_frozen BK140.out 2
                        have hfz80_3 := blk_frozen BK140.out 3
                        have hfz80_4 := blk_frozen BK140.out 4
                        have hfz80_5 := blk_frozen BK140.out 5
                        have hnb81 := NB141_132.out
                        have hnc81 := NB132_141.out
                        have hnb82 := NB141_133.out
                        have hnc82 := NB133_141.out
                        have hcz83_0 : wc.cell? ⟨gb141, 0, none⟩ = some (.int .u8 t142) := (blk_cell BK141.out 0).trans rfl
                        have hcz83_1 : wc.cell? ⟨gb141, 1, none⟩ = some (.int .u8 x142001_14) := (blk_cell BK141.out 1).trans rfl
                        have hcz83_2 : wc.cell? ⟨gb141, 2, none⟩ = some (.int .u8 x142002_49) := (blk_cell BK141.out 2).trans rfl
                        have hcz83_3 : wc.cell? ⟨gb141, 3, none⟩ = some (.int .u16 t137) := (blk_cell BK141.out 3).trans rfl
                        have hcz83_4 : wc.cell? ⟨gb141, 4, none⟩ = some (.bool false) := (blk_cell BK141.out 4).trans rfl
                        have hcz83_5 : wc.cell? ⟨gb141, 5, none⟩ = some (.bool t139) := (blk_cell BK141.out 5).trans rfl
                        have hfz83_0 := blk_frozen BK141.out 0
                        have hfz83_1 := blk_frozen BK141.out 1
                        have hfz83_2 := blk_frozen BK141.out 2
                        have hfz83_3 := blk_frozen BK141.out 3
                        have hfz83_4 := blk_frozen BK141.out 4
                        have hfz83_5 := blk_frozen BK141.out 5
                        have hnb84 := NB133_132.out
                        have hnc84 := NB132_133.out
                        have hcz85_0 : wc.cell? ⟨gb133, 0, none⟩ = some (.int .u8 0) := (blk_cell BK133.out 0).trans rfl
                        have hcz85_1 : wc.cell? ⟨gb133, 1, none⟩ = some (.int .u8 0) := (blk_cell BK133.out 1).trans rfl
                        have hcz85_2 : wc.cell? ⟨gb133, 2, none⟩ = some (.int .u8 0) := (blk_cell BK133.out 2).trans rfl
                        have hcz85_3 : wc.cell? ⟨gb133, 3, none⟩ = some (.int .u16 0) := (blk_cell BK133.out 3).trans rfl
                        have hcz85_4 : wc.cell? ⟨gb133, 4, none⟩ = some (.bool false) := (blk_cell BK133.out 4).trans rfl
                        have hcz85_5 : wc.cell? ⟨gb133, 5, none⟩ = some (.bool false) := (blk_cell BK133.out 5).trans rfl
                        have hfz85_0 := blk_frozen BK133.out 0
                        have hfz85_1 := blk_frozen BK133.out 1
                        have hfz85_2 := blk_frozen BK133.out 2
                        have hfz85_3 := blk_frozen BK133.out 3
                        have hfz85_4 := blk_frozen BK133.out 4
                        have hfz85_5 := blk_frozen BK133.out 5
                        go_wp2
                        refine bodyPost_ret (results_cell_row rfl _ _ gb133 24 #[.int .u8 t142, .int .u8 x142001_14, .int .u8 x142002_49, .int .u16 0, .bool false, .bool true] (0, 0) _ rfl (by (with_reducible repeat (first | refine blk_drewN ?_ _ | refine blk_drew ?_ | refine blk_alloc ?_ _)); refine blk_put (cs := #[.int .u8 t142, .int .u8 x142001_14, .int .u8 x142002_49, .int .u16 0, .bool false, .bool false]) ?_ 5 _ rfl; (with_reducible repeat (first | refine blk_drewN ?_ _ | refine blk_drew ?_ | refine blk_alloc ?_ _)); refine blk_put (cs := #[.int .u8 t142, .int .u8 x142001_14, .int .u8 x142002_49, .int .u16 0, .bool false, .bool false]) ?_ 4 _ rfl; (with_reducible repeat (first | refine blk_drewN ?_ _ | refine blk_drew ?_ | refine blk_alloc ?_ _)); refine blk_put (cs := #[.int .u8 t142, .int .u8 x142001_14, .int .u8 x142002_49, .int .u16 0, .bool false, .bool false]) ?_ 3 _ rfl; (with_reducible repeat (first | refine blk_drewN ?_ _ | refine blk_drew ?_ | refine blk_alloc ?_ _)); refine blk_put (cs := #[.int .u8 t142, .int .u8 x142001_14, .int .u8 0, .int .u16 0, .bool false, .bool false]) ?_ 2 _ rfl; (with_reducible repeat (first | refine blk_drewN ?_ _ | refine blk_drew ?_ | refine blk_alloc ?_ _)); refine blk_put (cs := #[.int .u8 t142, .int .u8 0, .int .u8 0, .int .u16 0, .bool false, .bool false]) ?_ 1 _ rfl; (with_reducible repeat (first | refine blk_drewN ?_ _ | refine blk_drew ?_ | refine blk_alloc ?_ _)); refine blk_put (cs := #[.int .u8 0, .int .u8 0, .int .u8 0, .int .u16 0, .bool false, .bool false]) ?_ 0 _ rfl; (with_reducible repeat (first | refine blk_drewN ?_ _ | refine blk_drew ?_ | refine blk_alloc ?_ _)); refine blk_far ?_ NB133_141.out _; (with_reducible repeat (first | refine blk_drewN ?_ _ | refine blk_drew ?_ | refine blk_alloc ?_ _)); refine blk_far ?_ NB133_141.out _; (with_reducible repeat (first | refine blk_drewN ?_ _ | refine blk_drew ?_ | refine blk_alloc ?_ _)); exact BK133.out) Try.underlying24 rfl (by kernel_rfl)) rfl ?_
                        exact ⟨by first | rfl | (simp [errW_none, errW_some] <;> rfl) | (simp [*, errW_none, errW_some] <;> rfl), by repeat (first | (with_reducible first | exact HB.out | apply below_alloc | apply pw_below_drewN | apply below_drew1 | refine below_set ?_ GE132.out | refine below_set ?_ GE133.out | refine below_set ?_ GE140.out | refine below_set ?_ GE141.out) | exact HB.out)⟩
                      · rw [if_neg c76] at H
                        have c76b0 : (t137 == 511) = false := beq_eq_false_iff_ne.mpr c76
                        have c76b1 : (t137 != 511) = true := bne_iff_ne.mpr c76
                        simp only [Option.some.injEq, Prod.mk.injEq] at H
                        obtain ⟨rfl, rfl, rfl, rfl, rfl, rfl⟩ := H
                        have hnb86 := NB140_132.out
                        have hnc86 := NB132_140.out
                        have hnb87 := NB140_133.out
                        have hnc87 := NB133_140.out
                        have hnb88 := NB140_141.out
                        have hnc88 := NB141_140.out
                        have hcz89_0 : wc.cell? ⟨gb140, 0, none⟩ = some (.int .u8 t134) := (blk_cell BK140.out 0).trans rfl
                        have hcz89_1 : wc.cell? ⟨gb140, 1, none⟩ = some (.int .u8 t135) := (blk_cell BK140.out 1).trans rfl
                        have hcz89_2 : wc.cell? ⟨gb140, 2, none⟩ = some (.int .u8 t136) := (blk_cell BK140.out 2).trans rfl
                        have hcz89_3 : wc.cell? ⟨gb140, 3, none⟩ = some (.int .u16 t137) := (blk_cell BK140.out 3).trans rfl
                        have hcz89_4 : wc.cell? ⟨gb140, 4, none⟩ = some (.bool false) := (blk_cell BK140.out 4).trans rfl
                        have hcz89_5 : wc.cell? ⟨gb140, 5, none⟩ = some (.bool t139) := (blk_cell BK140.out 5).trans rfl
                        have hfz89_0 := blk_frozen BK140.out 0
                        have hfz89_1 := blk_frozen BK140.out 1
                        have hfz89_2 := blk_frozen BK140.out 2
                        have hfz89_3 := blk_frozen BK140.out 3
                        have hfz89_4 := blk_frozen BK140.out 4
                        have hfz89_5 := blk_frozen BK140.out 5
                        have hnb90 := NB141_132.out
                        have hnc90 := NB132_141.out
                        have hnb91 := NB141_133.out
                        have hnc91 := NB133_141.out
                        have hcz92_0 : wc.cell? ⟨gb141, 0, none⟩ = some (.int .u8 t142) := (blk_cell BK141.out 0).trans rfl
                        have hcz92_1 : wc.cell? ⟨gb141, 1, none⟩ = some (.int .u8 x142001_14) := (blk_cell BK141.out 1).trans rfl
                        have hcz92_2 : wc.cell? ⟨gb141, 2, none⟩ = some (.int .u8 x142002_49) := (blk_cell BK141.out 2).trans rfl
                        have hcz92_3 : wc.cell? ⟨gb141, 3, none⟩ = some (.int .u16 t137) := (blk_cell BK141.out 3).trans rfl
                        have hcz92_4 : wc.cell? ⟨gb141, 4, none⟩ = some (.bool false) := (blk_cell BK141.out 4).trans rfl
                        have hcz92_5 : wc.cell? ⟨gb141, 5, none⟩ = some (.bool t139) := (blk_cell BK141.out 5).trans rfl
                        have hfz92_0 := blk_frozen BK141.out 0
                        have hfz92_1 := blk_frozen BK141.out 1
                        have hfz92_2 := blk_frozen BK141.out 2
                        have hfz92_3 := blk_frozen BK141.out 3
                        have hfz92_4 := blk_frozen BK141.out 4
                        have hfz92_5 := blk_frozen BK141.out 5
                        have hnb93 := NB133_132.out
                        have hnc93 := NB132_133.out
                        have hcz94_0 : wc.cell? ⟨gb133, 0, none⟩ = some (.int .u8 0) := (blk_cell BK133.out 0).trans rfl
                        have hcz94_1 : wc.cell? ⟨gb133, 1, none⟩ = some (.int .u8 0) := (blk_cell BK133.out 1).trans rfl
                        have hcz94_2 : wc.cell? ⟨gb133, 2, none⟩ = some (.int .u8 0) := (blk_cell BK133.out 2).trans rfl
                        have hcz94_3 : wc.cell? ⟨gb133, 3, none⟩ = some (.int .u16 0) := (blk_cell BK133.out 3).trans rfl
                        have hcz94_4 : wc.cell? ⟨gb133, 4, none⟩ = some (.bool false) := (blk_cell BK133.out 4).trans rfl
                        have hcz94_5 : wc.cell? ⟨gb133, 5, none⟩ = some (.bool false) := (blk_cell BK133.out 5).trans rfl
                        have hfz94_0 := blk_frozen BK133.out 0
                        have hfz94_1 := blk_frozen BK133.out 1
                        have hfz94_2 := blk_frozen BK133.out 2
                        have hfz94_3 := blk_frozen BK133.out 3
                        have hfz94_4 := blk_frozen BK133.out 4
                        have hfz94_5 := blk_frozen BK133.out 5
                        go_wp2
                        refine bodyPost_ret (results_cell_row rfl _ _ gb133 24 #[.int .u8 t142, .int .u8 x142001_14, .int .u8 x142002_49, .int .u16 (IntKind.u16.wrap (t137 + 1)), .bool false, .bool t139] (0, 0) _ rfl (by (with_reducible repeat (first | refine blk_drewN ?_ _ | refine blk_drew ?_ | refine blk_alloc ?_ _)); refine blk_put (cs := #[.int .u8 t142, .int .u8 x142001_14, .int .u8 x142002_49, .int .u16 (IntKind.u16.wrap (t137 + 1)), .bool false, .bool false]) ?_ 5 _ rfl; (with_reducible repeat (first | refine blk_drewN ?_ _ | refine blk_drew ?_ | refine blk_alloc ?_ _)); refine blk_put (cs := #[.int .u8 t142, .int .u8 x142001_14, .int .u8 x142002_49, .int .u16 (IntKind.u16.wrap (t137 + 1)), .bool false, .bool false]) ?_ 4 _ rfl; (with_reducible repeat (first | refine blk_drewN ?_ _ | refine blk_drew ?_ | refine blk_alloc ?_ _)); refine blk_put (cs := #[.int .u8 t142, .int .u8 x142001_14, .int .u8 x142002_49, .int .u16 0, .bool false, .bool false]) ?_ 3 _ rfl; (with_reducible repeat (first | refine blk_drewN ?_ _ | refine blk_drew ?_ | refine blk_alloc ?_ _)); refine blk_put (cs := #[.int .u8 t142, .int .u8 x142001_14, .int .u8 0, .int .u16 0, .bool false, .bool false]) ?_ 2 _ rfl; (with_reducible repeat (first | refine blk_drewN ?_ _ | refine blk_drew ?_ | refine blk_alloc ?_ _)); refine blk_put (cs := #[.int .u8 t142, .int .u8 0, .int .u8 0, .int .u16 0, .bool false, .bool false]) ?_ 1 _ rfl; (with_reducible repeat (first | refine blk_drewN ?_ _ | refine blk_drew ?_ | refine blk_alloc ?_ _)); refine blk_put (cs := #[.int .u8 0, .int .u8 0, .int .u8 0, .int .u16 0, .bool false, .bool false]) ?_ 0 _ rfl; (with_reducible repeat (first | refine blk_drewN ?_ _ | refine blk_drew ?_ | refine blk_alloc ?_ _)); refine blk_far ?_ NB133_141.out _; (with_reducible repeat (first | refine blk_drewN ?_ _ | refine blk_drew ?_ | refine blk_alloc ?_ _)); exact BK133.out) Try.underlying24 rfl (by kernel_rfl)) rfl ?_
                        exact ⟨by first | rfl | (simp [errW_none, errW_some] <;> rfl) | (simp [*, errW_none, errW_some] <;> rfl), by repeat (first | (with_reducible first | exact HB.out | apply below_alloc | apply pw_below_drewN | apply below_drew1 | refine below_set ?_ GE132.out | refine below_set ?_ GE133.out | refine below_set ?_ GE140.out | refine below_set ?_ GE141.out) | exact HB.out)⟩
                    · replace c75 := Bool.eq_false_iff.mpr c75
                      subst c75
                      have H1 : (some (t142, x142001_14, x142002_49, t137, false, t139)) = some (r1, r2, r3, r4, r5, r6) := by rw [if_neg (show ¬ (false = true) by decide)] at H; exact H
                      clear H
                      have H := H1
                      clear H1
                      simp only [Option.some.injEq, Prod.mk.injEq] at H
                      obtain ⟨rfl, rfl, rfl, rfl, rfl, rfl⟩ := H
                      have hnb95 := NB141_132.out
                      have hnc95 := NB132_141.out
                      have hnb96 := NB141_133.out
                      have hnc96 := NB133_141.out
                      have hnb97 := NB141_140.out
                      have hnc97 := NB140_141.out
                      have hcz98_0 : wc.cell? ⟨gb141, 0, none⟩ = some (.int .u8 t142) := (blk_cell BK141.out 0).trans rfl
                      have hcz98_1 : wc.cell? ⟨gb141, 1, none⟩ = some (.int .u8 x142001_14) := (blk_cell BK141.out 1).trans rfl
                      have hcz98_2 : wc.cell? ⟨gb141, 2, none⟩ = some (.int .u8 x142002_49) := (blk_cell BK141.out 2).trans rfl
                      have hcz98_3 : wc.cell? ⟨gb141, 3, none⟩ = some (.int .u16 t137) := (blk_cell BK141.out 3).trans rfl
                      have hcz98_4 : wc.cell? ⟨gb141, 4, none⟩ = some (.bool false) := (blk_cell BK141.out 4).trans rfl
                      have hcz98_5 : wc.cell? ⟨gb141, 5, none⟩ = some (.bool t139) := (blk_cell BK141.out 5).trans rfl
                      have hfz98_0 := blk_frozen BK141.out 0
                      have hfz98_1 := blk_frozen BK141.out 1
                      have hfz98_2 := blk_frozen BK141.out 2
                      have hfz98_3 := blk_frozen BK141.out 3
                      have hfz98_4 := blk_frozen BK141.out 4
                      have hfz98_5 := blk_frozen BK141.out 5
                      have hnb99 := NB133_132.out
                      have hnc99 := NB132_133.out
                      have hnb100 := NB133_140.out
                      have hnc100 := NB140_133.out
                      have hcz101_0 : wc.cell? ⟨gb133, 0, none⟩ = some (.int .u8 0) := (blk_cell BK133.out 0).trans rfl
                      have hcz101_1 : wc.cell? ⟨gb133, 1, none⟩ = some (.int .u8 0) := (blk_cell BK133.out 1).trans rfl
                      have hcz101_2 : wc.cell? ⟨gb133, 2, none⟩ = some (.int .u8 0) := (blk_cell BK133.out 2).trans rfl
                      have hcz101_3 : wc.cell? ⟨gb133, 3, none⟩ = some (.int .u16 0) := (blk_cell BK133.out 3).trans rfl
                      have hcz101_4 : wc.cell? ⟨gb133, 4, none⟩ = some (.bool false) := (blk_cell BK133.out 4).trans rfl
                      have hcz101_5 : wc.cell? ⟨gb133, 5, none⟩ = some (.bool false) := (blk_cell BK133.out 5).trans rfl
                      have hfz101_0 := blk_frozen BK133.out 0
                      have hfz101_1 := blk_frozen BK133.out 1
                      have hfz101_2 := blk_frozen BK133.out 2
                      have hfz101_3 := blk_frozen BK133.out 3
                      have hfz101_4 := blk_frozen BK133.out 4
                      have hfz101_5 := blk_frozen BK133.out 5
                      go_wp2
                      refine bodyPost_ret (results_cell_row rfl _ _ gb133 24 #[.int .u8 t142, .int .u8 x142001_14, .int .u8 x142002_49, .int .u16 t137, .bool false, .bool t139] (0, 0) _ rfl (by (with_reducible repeat (first | refine blk_drewN ?_ _ | refine blk_drew ?_ | refine blk_alloc ?_ _)); refine blk_put (cs := #[.int .u8 t142, .int .u8 x142001_14, .int .u8 x142002_49, .int .u16 t137, .bool false, .bool false]) ?_ 5 _ rfl; (with_reducible repeat (first | refine blk_drewN ?_ _ | refine blk_drew ?_ | refine blk_alloc ?_ _)); refine blk_put (cs := #[.int .u8 t142, .int .u8 x142001_14, .int .u8 x142002_49, .int .u16 t137, .bool false, .bool false]) ?_ 4 _ rfl; (with_reducible repeat (first | refine blk_drewN ?_ _ | refine blk_drew ?_ | refine blk_alloc ?_ _)); refine blk_put (cs := #[.int .u8 t142, .int .u8 x142001_14, .int .u8 x142002_49, .int .u16 0, .bool false, .bool false]) ?_ 3 _ rfl; (with_reducible repeat (first | refine blk_drewN ?_ _ | refine blk_drew ?_ | refine blk_alloc ?_ _)); refine blk_put (cs := #[.int .u8 t142, .int .u8 x142001_14, .int .u8 0, .int .u16 0, .bool false, .bool false]) ?_ 2 _ rfl; (with_reducible repeat (first | refine blk_drewN ?_ _ | refine blk_drew ?_ | refine blk_alloc ?_ _)); refine blk_put (cs := #[.int .u8 t142, .int .u8 0, .int .u8 0, .int .u16 0, .bool false, .bool false]) ?_ 1 _ rfl; (with_reducible repeat (first | refine blk_drewN ?_ _ | refine blk_drew ?_ | refine blk_alloc ?_ _)); refine blk_put (cs := #[.int .u8 0, .int .u8 0, .int .u8 0, .int .u16 0, .bool false, .bool false]) ?_ 0 _ rfl; (with_reducible repeat (first | refine blk_drewN ?_ _ | refine blk_drew ?_ | refine blk_alloc ?_ _)); exact BK133.out) Try.underlying24 rfl (by kernel_rfl)) rfl ?_
                      exact ⟨by first | rfl | (simp [errW_none, errW_some] <;> rfl) | (simp [*, errW_none, errW_some] <;> rfl), by repeat (first | (with_reducible first | exact HB.out | apply below_alloc | apply pw_below_drewN | apply below_drew1 | refine below_set ?_ GE132.out | refine below_set ?_ GE133.out | refine below_set ?_ GE140.out | refine below_set ?_ GE141.out) | exact HB.out)⟩

end Go.Proofs.Ytkfjofkocccefaa.G
