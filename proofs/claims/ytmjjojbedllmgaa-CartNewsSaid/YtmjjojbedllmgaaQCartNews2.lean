/- What the proof of the statement CartNews stands on, part 2. (Packed by pack.py out of this session's texts.) -/
import Derived.Deep.MidRow
import Derived.Handy
import Derived.Deep.RegionHeld2
import Derived.Deep.RegionHeld3
import Derived.Deep.RegionWith
import Derived.BigRegion
import Derived.WalkKit
import Derived.Defers
import Derived.Recover
import Derived.WalkLawsBesides
import Derived.Test.YtmjjojbedllmgaaQCartNews0
import Derived.Test.YtmjjojbedllmgaaQCartNews1
set_option linter.unusedVariables false
set_option linter.unusedSimpArgs false
set_option maxRecDepth 100000
set_option maxHeartbeats 8000000
section
namespace Go.Proofs.Ytmjjojbedllmgaa.G
open Go.RowKit Go.Proofs.YtmjjojbedllmgaaW.PrintWords Go.Proofs.YtmjjojbedllmgaaW.PrintLast Go.Proofs.YtmjjojbedllmgaaW.PrintMore
def clock_Read.f (a0_0 : Int) (a0_1 : Int) (a0_2 : Int) (a0_3 : Int) (a0_4 : Bool) (a0_5 : Bool) (a1 : Int) : Option (Int × Int) := (clock_Norm.f a0_0 a0_1 a0_2 a0_3 a0_4 a0_5).bind fun bt112 => (if a1 = 8 then (some (bt112.1, 0)) else (if a1 = 9 then (some (bt112.2.1, 0)) else (if a1 = 10 then (some (bt112.2.2.1, 0)) else (if a1 = 11 then (some ((bt112.2.2.2.1) % 256, 0)) else (if a1 = 12 then ((clock_bit.f bt112.2.2.2.2.1 64).bind fun t118 => ((clock_bit.f bt112.2.2.2.2.2 128).bind fun t119 => (some (Go.bits .or .u8 (Go.bits .or .u8 ((bt112.2.2.2.1 / 256) % 256) t118) t119, 0)))) else (some (0, 7)))))))
theorem clock_Read.calls (a0_0 : Int) (a0_1 : Int) (a0_2 : Int) (a0_3 : Int) (a0_4 : Bool) (a0_5 : Bool) (a1 : Int) (r1 : Int) (r2 : Int) (w : World) (h : clock_Read.f a0_0 a0_1 a0_2 a0_3 a0_4 a0_5 a1 = some (r1, r2)) :
  Calls Try.prog 35 #[.agg #[.int .u8 a0_0, .int .u8 a0_1, .int .u8 a0_2, .int .u16 a0_3, .bool a0_4, .bool a0_5], .int .i64 a1] w fun e w' => e = .returned (.tuple #[.int .u8 r1, .int .i64 r2]) ∧ Below w.heap.size w w' := by
 have hu34 := Try.underlying34
 have HB := Aside0.mk (Below.refl w.heap.size w)
 have H : ((clock_Norm.f a0_0 a0_1 a0_2 a0_3 a0_4 a0_5).bind fun bt112 => (if a1 = 8 then (some (bt112.1, 0)) else (if a1 = 9 then (some (bt112.2.1, 0)) else (if a1 = 10 then (some (bt112.2.2.1, 0)) else (if a1 = 11 then (some ((bt112.2.2.2.1) % 256, 0)) else (if a1 = 12 then ((clock_bit.f bt112.2.2.2.2.1 64).bind fun t118 => ((clock_bit.f bt112.2.2.2.2.2 128).bind fun t119 => (some (Go.bits .or .u8 (Go.bits .or .u8 ((bt112.2.2.2.1 / 256) % 256) t118) t119, 0)))) else (some (0, 7)))))))) = some (r1, r2) := h
 clear h
 replace H := Option.bind_eq_some_iff.mp H
 obtain ⟨⟨t112, t113, t114, t115, t116, t117⟩, A30, H⟩ := H
 replace H : (if a1 = 8 then (some (t112, 0)) else (if a1 = 9 then (some (t113, 0)) else (if a1 = 10 then (some (t114, 0)) else (if a1 = 11 then (some ((t115) % 256, 0)) else (if a1 = 12 then ((clock_bit.f t116 64).bind fun t118 => ((clock_bit.f t117 128).bind fun t119 => (some (Go.bits .or .u8 (Go.bits .or .u8 ((t115 / 256) % 256) t118) t119, 0)))) else (some (0, 7))))))) = some (r1, r2) := H
 have A3 := Aside0.mk A30
 clear A30
 by_cases c4 : a1 = 8
 case' _ =>
  rw [if_pos c4] at H
  have c4b0 : (a1 == 8) = true := beq_iff_eq.mpr c4
  have c4b1 : (a1 != 8) = false := bne_eq_false_iff_eq.mpr c4
  clear c4
  simp only [Option.some.injEq, Prod.mk.injEq] at H
  obtain ⟨rfl, rfl⟩ := H
 rotate_right
 case' _ =>
  rw [if_neg c4] at H
  have c4b0 : (a1 == 8) = false := beq_eq_false_iff_ne.mpr c4
  have c4b1 : (a1 != 8) = true := bne_iff_ne.mpr c4
  by_cases c9 : a1 = 9
  case' _ =>
   rw [if_pos c9] at H
   have c9b0 : (a1 == 9) = true := beq_iff_eq.mpr c9
   have c9b1 : (a1 != 9) = false := bne_eq_false_iff_eq.mpr c9
   clear c9
   simp only [Option.some.injEq, Prod.mk.injEq] at H
   obtain ⟨rfl, rfl⟩ := H
  rotate_right
  case' _ =>
   rw [if_neg c9] at H
   have c9b0 : (a1 == 9) = false := beq_eq_false_iff_ne.mpr c9
   have c9b1 : (a1 != 9) = true := bne_iff_ne.mpr c9
   by_cases c14 : a1 = 10
   case' _ =>
    rw [if_pos c14] at H
    have c14b0 : (a1 == 10) = true := beq_iff_eq.mpr c14
    have c14b1 : (a1 != 10) = false := bne_eq_false_iff_eq.mpr c14
    clear c14
    simp only [Option.some.injEq, Prod.mk.injEq] at H
    obtain ⟨rfl, rfl⟩ := H
   rotate_right
   case' _ =>
    rw [if_neg c14] at H
    have c14b0 : (a1 == 10) = false := beq_eq_false_iff_ne.mpr c14
    have c14b1 : (a1 != 10) = true := bne_iff_ne.mpr c14
    by_cases c19 : a1 = 11
    case' _ =>
     rw [if_pos c19] at H
     have c19b0 : (a1 == 11) = true := beq_iff_eq.mpr c19
     have c19b1 : (a1 != 11) = false := bne_eq_false_iff_eq.mpr c19
     clear c19
     simp only [Option.some.injEq, Prod.mk.injEq] at H
     obtain ⟨rfl, rfl⟩ := H
    rotate_right
    case' _ =>
     rw [if_neg c19] at H
     have c19b0 : (a1 == 11) = false := beq_eq_false_iff_ne.mpr c19
     have c19b1 : (a1 != 11) = true := bne_iff_ne.mpr c19
     by_cases c24 : a1 = 12
     case' _ =>
      rw [if_pos c24] at H
      have c24b0 : (a1 == 12) = true := beq_iff_eq.mpr c24
      have c24b1 : (a1 != 12) = false := bne_eq_false_iff_eq.mpr c24
      clear c24
      replace H := Option.bind_eq_some_iff.mp H
      obtain ⟨t118, A250, H⟩ := H
      replace H : ((clock_bit.f t117 128).bind fun t119 => (some (Go.bits .or .u8 (Go.bits .or .u8 ((t115 / 256) % 256) t118) t119, 0))) = some (r1, r2) := H
      have A25 := Aside0.mk A250
      clear A250
      replace H := Option.bind_eq_some_iff.mp H
      obtain ⟨t119, A260, H⟩ := H
      replace H : (some (Go.bits .or .u8 (Go.bits .or .u8 ((t115 / 256) % 256) t118) t119, 0)) = some (r1, r2) := H
      have A26 := Aside0.mk A260
      clear A260
      simp only [Option.some.injEq, Prod.mk.injEq] at H
      obtain ⟨rfl, rfl⟩ := H
      go_enter Try.func35, Try.ntmps35
      go_wp2_with (first | ((with_reducible refine gate_dst (N := 2) rfl ?_); refine box_event ?hg (N := 2) ?hd (cs := #[.int .u8 a0_0, .int .u8 a0_1, .int .u8 a0_2, .int .u16 a0_3, .bool a0_4, .bool a0_5]) (t := 34) ?hr ?_; (case hd => rfl); (case hg => rfl); (case hr => first | (go_simp; done) | (go_simp; rfl)); intro gb111 hg w900 hbox hb; have n0_ := Aside0.mk (below_step (by repeat (first | (with_reducible first | exact HB.out | apply below_alloc | apply pw_below_drewN | apply below_drew1) | exact HB.out)) hb); have n1_ := Aside0.mk (hbox); have n2_ := Aside0.mk ((by rw [hg]; exact (below_size (by repeat (first | (with_reducible first | exact HB.out | apply below_alloc | apply pw_below_drewN | apply below_drew1) | exact HB.out))) : w.heap.size ≤ gb111)); have n3_ := Aside0.mk ((by rw [hg]; exact (below_size (by repeat (first | (with_reducible first | exact HB.out | apply below_alloc | apply pw_below_drewN | apply below_drew1) | exact HB.out))) : w.heap.size ≤ gb111)); clear HB; have HB := n0_; have BK111 := n1_; have GW111 := n2_; have GE111 := n3_; clear n0_ n1_ n2_ n3_; clear hb hbox hg; have hcz901_0 : w900.cell? ⟨gb111, 0, none⟩ = some (.int .u8 a0_0) := (blk_cell BK111.out 0).trans rfl; have hcz901_1 : w900.cell? ⟨gb111, 1, none⟩ = some (.int .u8 a0_1) := (blk_cell BK111.out 1).trans rfl; have hcz901_2 : w900.cell? ⟨gb111, 2, none⟩ = some (.int .u8 a0_2) := (blk_cell BK111.out 2).trans rfl; have hcz901_3 : w900.cell? ⟨gb111, 3, none⟩ = some (.int .u16 a0_3) := (blk_cell BK111.out 3).trans rfl; have hcz901_4 : w900.cell? ⟨gb111, 4, none⟩ = some (.bool a0_4) := (blk_cell BK111.out 4).trans rfl; have hcz901_5 : w900.cell? ⟨gb111, 5, none⟩ = some (.bool a0_5) := (blk_cell BK111.out 5).trans rfl; have hfz901_0 := blk_frozen BK111.out 0; have hfz901_1 := blk_frozen BK111.out 1; have hfz901_2 := blk_frozen BK111.out 2; have hfz901_3 := blk_frozen BK111.out 3; have hfz901_4 := blk_frozen BK111.out 4; have hfz901_5 := blk_frozen BK111.out 5) | (go_at_call 66; (with_reducible refine (clock_Norm.calls _ _ _ _ _ _ _ _ _ _ _ _ _ A3.out).mono ?_); rintro e w902 ⟨rfl, hb⟩; have n0_ := Aside0.mk (blk_below (g := gb111) (o := .cells #[.int .u8 a0_0, .int .u8 a0_1, .int .u8 a0_2, .int .u16 a0_3, .bool a0_4, .bool a0_5] 34 (0, 0)) (by (with_reducible repeat (first | refine blk_drewN ?_ _ | refine blk_drew ?_ | refine blk_alloc ?_ _)); exact BK111.out) hb); have n1_ := Aside0.mk (below_step (by repeat (first | (with_reducible first | exact HB.out | apply below_alloc | apply pw_below_drewN | apply below_drew1 | refine below_set ?_ GE111.out) | exact HB.out)) hb); clear BK111; clear HB; have BK111 := n0_; have HB := n1_; clear n0_ n1_; (try clear hb); (try clear hb2); (try clear hk); (try clear hi); have hcz903_0 : w902.cell? ⟨gb111, 0, none⟩ = some (.int .u8 a0_0) := (blk_cell BK111.out 0).trans rfl; have hcz903_1 : w902.cell? ⟨gb111, 1, none⟩ = some (.int .u8 a0_1) := (blk_cell BK111.out 1).trans rfl; have hcz903_2 : w902.cell? ⟨gb111, 2, none⟩ = some (.int .u8 a0_2) := (blk_cell BK111.out 2).trans rfl; have hcz903_3 : w902.cell? ⟨gb111, 3, none⟩ = some (.int .u16 a0_3) := (blk_cell BK111.out 3).trans rfl; have hcz903_4 : w902.cell? ⟨gb111, 4, none⟩ = some (.bool a0_4) := (blk_cell BK111.out 4).trans rfl; have hcz903_5 : w902.cell? ⟨gb111, 5, none⟩ = some (.bool a0_5) := (blk_cell BK111.out 5).trans rfl; have hfz903_0 := blk_frozen BK111.out 0; have hfz903_1 := blk_frozen BK111.out 1; have hfz903_2 := blk_frozen BK111.out 2; have hfz903_3 := blk_frozen BK111.out 3; have hfz903_4 := blk_frozen BK111.out 4; have hfz903_5 := blk_frozen BK111.out 5) | (go_at_call 67; (with_reducible refine (clock_bit.calls _ _ _ _ A25.out).mono ?_); rintro e w' ⟨rfl, ⟨nd, rfl⟩⟩; (try first | exact ⟨rfl, _, World.drewN_drewN _ _ _⟩ | exact ⟨rfl, _, Eq.trans (World.drewN_drewN _ _ _) (congrArg (World.drewN _) (Nat.add_assoc _ _ _))⟩)) | (go_at_call 67; (with_reducible refine (clock_bit.calls _ _ _ _ A26.out).mono ?_); rintro e w' ⟨rfl, ⟨nd, rfl⟩⟩; (try first | exact ⟨rfl, _, World.drewN_drewN _ _ _⟩ | exact ⟨rfl, _, Eq.trans (World.drewN_drewN _ _ _) (congrArg (World.drewN _) (Nat.add_assoc _ _ _))⟩)))
      repeat (go_quiet (first | ((with_reducible refine gate_dst (N := 2) rfl ?_); refine box_event ?hg (N := 2) ?hd (cs := #[.int .u8 a0_0, .int .u8 a0_1, .int .u8 a0_2, .int .u16 a0_3, .bool a0_4, .bool a0_5]) (t := 34) ?hr ?_; (case hd => rfl); (case hg => rfl); (case hr => first | (go_simp; done) | (go_simp; rfl)); intro gb111 hg w900 hbox hb; have n0_ := Aside0.mk (below_step (by repeat (first | (with_reducible first | exact HB.out | apply below_alloc | apply pw_below_drewN | apply below_drew1) | exact HB.out)) hb); have n1_ := Aside0.mk (hbox); have n2_ := Aside0.mk ((by rw [hg]; exact (below_size (by repeat (first | (with_reducible first | exact HB.out | apply below_alloc | apply pw_below_drewN | apply below_drew1) | exact HB.out))) : w.heap.size ≤ gb111)); have n3_ := Aside0.mk ((by rw [hg]; exact (below_size (by repeat (first | (with_reducible first | exact HB.out | apply below_alloc | apply pw_below_drewN | apply below_drew1) | exact HB.out))) : w.heap.size ≤ gb111)); clear HB; have HB := n0_; have BK111 := n1_; have GW111 := n2_; have GE111 := n3_; clear n0_ n1_ n2_ n3_; clear hb hbox hg; have hcz901_0 : w900.cell? ⟨gb111, 0, none⟩ = some (.int .u8 a0_0) := (blk_cell BK111.out 0).trans rfl; have hcz901_1 : w900.cell? ⟨gb111, 1, none⟩ = some (.int .u8 a0_1) := (blk_cell BK111.out 1).trans rfl; have hcz901_2 : w900.cell? ⟨gb111, 2, none⟩ = some (.int .u8 a0_2) := (blk_cell BK111.out 2).trans rfl; have hcz901_3 : w900.cell? ⟨gb111, 3, none⟩ = some (.int .u16 a0_3) := (blk_cell BK111.out 3).trans rfl; have hcz901_4 : w900.cell? ⟨gb111, 4, none⟩ = some (.bool a0_4) := (blk_cell BK111.out 4).trans rfl; have hcz901_5 : w900.cell? ⟨gb111, 5, none⟩ = some (.bool a0_5) := (blk_cell BK111.out 5).trans rfl; have hfz901_0 := blk_frozen BK111.out 0; have hfz901_1 := blk_frozen BK111.out 1; have hfz901_2 := blk_frozen BK111.out 2; have hfz901_3 := blk_frozen BK111.out 3; have hfz901_4 := blk_frozen BK111.out 4; have hfz901_5 := blk_frozen BK111.out 5) | (go_at_call 66; (with_reducible refine (clock_Norm.calls _ _ _ _ _ _ _ _ _ _ _ _ _ A3.out).mono ?_); rintro e w902 ⟨rfl, hb⟩; have n0_ := Aside0.mk (blk_below (g := gb111) (o := .cells #[.int .u8 a0_0, .int .u8 a0_1, .int .u8 a0_2, .int .u16 a0_3, .bool a0_4, .bool a0_5] 34 (0, 0)) (by (with_reducible repeat (first | refine blk_drewN ?_ _ | refine blk_drew ?_ | refine blk_alloc ?_ _)); exact BK111.out) hb); have n1_ := Aside0.mk (below_step (by repeat (first | (with_reducible first | exact HB.out | apply below_alloc | apply pw_below_drewN | apply below_drew1 | refine below_set ?_ GE111.out) | exact HB.out)) hb); clear BK111; clear HB; have BK111 := n0_; have HB := n1_; clear n0_ n1_; (try clear hb); (try clear hb2); (try clear hk); (try clear hi); have hcz903_0 : w902.cell? ⟨gb111, 0, none⟩ = some (.int .u8 a0_0) := (blk_cell BK111.out 0).trans rfl; have hcz903_1 : w902.cell? ⟨gb111, 1, none⟩ = some (.int .u8 a0_1) := (blk_cell BK111.out 1).trans rfl; have hcz903_2 : w902.cell? ⟨gb111, 2, none⟩ = some (.int .u8 a0_2) := (blk_cell BK111.out 2).trans rfl; have hcz903_3 : w902.cell? ⟨gb111, 3, none⟩ = some (.int .u16 a0_3) := (blk_cell BK111.out 3).trans rfl; have hcz903_4 : w902.cell? ⟨gb111, 4, none⟩ = some (.bool a0_4) := (blk_cell BK111.out 4).trans rfl; have hcz903_5 : w902.cell? ⟨gb111, 5, none⟩ = some (.bool a0_5) := (blk_cell BK111.out 5).trans rfl; have hfz903_0 := blk_frozen BK111.out 0; have hfz903_1 := blk_frozen BK111.out 1; have hfz903_2 := blk_frozen BK111.out 2; have hfz903_3 := blk_frozen BK111.out 3; have hfz903_4 := blk_frozen BK111.out 4; have hfz903_5 := blk_frozen BK111.out 5) | (go_at_call 67; (with_reducible refine (clock_bit.calls _ _ _ _ A25.out).mono ?_); rintro e w' ⟨rfl, ⟨nd, rfl⟩⟩; (try first | exact ⟨rfl, _, World.drewN_drewN _ _ _⟩ | exact ⟨rfl, _, Eq.trans (World.drewN_drewN _ _ _) (congrArg (World.drewN _) (Nat.add_assoc _ _ _))⟩)) | (go_at_call 67; (with_reducible refine (clock_bit.calls _ _ _ _ A26.out).mono ?_); rintro e w' ⟨rfl, ⟨nd, rfl⟩⟩; (try first | exact ⟨rfl, _, World.drewN_drewN _ _ _⟩ | exact ⟨rfl, _, Eq.trans (World.drewN_drewN _ _ _) (congrArg (World.drewN _) (Nat.add_assoc _ _ _))⟩))); try go_wp2_with (first | ((with_reducible refine gate_dst (N := 2) rfl ?_); refine box_event ?hg (N := 2) ?hd (cs := #[.int .u8 a0_0, .int .u8 a0_1, .int .u8 a0_2, .int .u16 a0_3, .bool a0_4, .bool a0_5]) (t := 34) ?hr ?_; (case hd => rfl); (case hg => rfl); (case hr => first | (go_simp; done) | (go_simp; rfl)); intro gb111 hg w900 hbox hb; have n0_ := Aside0.mk (below_step (by repeat (first | (with_reducible first | exact HB.out | apply below_alloc | apply pw_below_drewN | apply below_drew1) | exact HB.out)) hb); have n1_ := Aside0.mk (hbox); have n2_ := Aside0.mk ((by rw [hg]; exact (below_size (by repeat (first | (with_reducible first | exact HB.out | apply below_alloc | apply pw_below_drewN | apply below_drew1) | exact HB.out))) : w.heap.size ≤ gb111)); have n3_ := Aside0.mk ((by rw [hg]; exact (below_size (by repeat (first | (with_reducible first | exact HB.out | apply below_alloc | apply pw_below_drewN | apply below_drew1) | exact HB.out))) : w.heap.size ≤ gb111)); clear HB; have HB := n0_; have BK111 := n1_; have GW111 := n2_; have GE111 := n3_; clear n0_ n1_ n2_ n3_; clear hb hbox hg; have hcz901_0 : w900.cell? ⟨gb111, 0, none⟩ = some (.int .u8 a0_0) := (blk_cell BK111.out 0).trans rfl; have hcz901_1 : w900.cell? ⟨gb111, 1, none⟩ = some (.int .u8 a0_1) := (blk_cell BK111.out 1).trans rfl; have hcz901_2 : w900.cell? ⟨gb111, 2, none⟩ = some (.int .u8 a0_2) := (blk_cell BK111.out 2).trans rfl; have hcz901_3 : w900.cell? ⟨gb111, 3, none⟩ = some (.int .u16 a0_3) := (blk_cell BK111.out 3).trans rfl; have hcz901_4 : w900.cell? ⟨gb111, 4, none⟩ = some (.bool a0_4) := (blk_cell BK111.out 4).trans rfl; have hcz901_5 : w900.cell? ⟨gb111, 5, none⟩ = some (.bool a0_5) := (blk_cell BK111.out 5).trans rfl; have hfz901_0 := blk_frozen BK111.out 0; have hfz901_1 := blk_frozen BK111.out 1; have hfz901_2 := blk_frozen BK111.out 2; have hfz901_3 := blk_frozen BK111.out 3; have hfz901_4 := blk_frozen BK111.out 4; have hfz901_5 := blk_frozen BK111.out 5) | (go_at_call 66; (with_reducible refine (clock_Norm.calls _ _ _ _ _ _ _ _ _ _ _ _ _ A3.out).mono ?_); rintro e w902 ⟨rfl, hb⟩; have n0_ := Aside0.mk (blk_below (g := gb111) (o := .cells #[.int .u8 a0_0, .int .u8 a0_1, .int .u8 a0_2, .int .u16 a0_3, .bool a0_4, .bool a0_5] 34 (0, 0)) (by (with_reducible repeat (first | refine blk_drewN ?_ _ | refine blk_drew ?_ | refine blk_alloc ?_ _)); exact BK111.out) hb); have n1_ := Aside0.mk (below_step (by repeat (first | (with_reducible first | exact HB.out | apply below_alloc | apply pw_below_drewN | apply below_drew1 | refine below_set ?_ GE111.out) | exact HB.out)) hb); clear BK111; clear HB; have BK111 := n0_; have HB := n1_; clear n0_ n1_; (try clear hb); (try clear hb2); (try clear hk); (try clear hi); have hcz903_0 : w902.cell? ⟨gb111, 0, none⟩ = some (.int .u8 a0_0) := (blk_cell BK111.out 0).trans rfl; have hcz903_1 : w902.cell? ⟨gb111, 1, none⟩ = some (.int .u8 a0_1) := (blk_cell BK111.out 1).trans rfl; have hcz903_2 : w902.cell? ⟨gb111, 2, none⟩ = some (.int .u8 a0_2) := (blk_cell BK111.out 2).trans rfl; have hcz903_3 : w902.cell? ⟨gb111, 3, none⟩ = some (.int .u16 a0_3) := (blk_cell BK111.out 3).trans rfl; have hcz903_4 : w902.cell? ⟨gb111, 4, none⟩ = some (.bool a0_4) := (blk_cell BK111.out 4).trans rfl; have hcz903_5 : w902.cell? ⟨gb111, 5, none⟩ = some (.bool a0_5) := (blk_cell BK111.out 5).trans rfl; have hfz903_0 := blk_frozen BK111.out 0; have hfz903_1 := blk_frozen BK111.out 1; have hfz903_2 := blk_frozen BK111.out 2; have hfz903_3 := blk_frozen BK111.out 3; have hfz903_4 := blk_frozen BK111.out 4; have hfz903_5 := blk_frozen BK111.out 5) | (go_at_call 67; (with_reducible refine (clock_bit.calls _ _ _ _ A25.out).mono ?_); rintro e w' ⟨rfl, ⟨nd, rfl⟩⟩; (try first | exact ⟨rfl, _, World.drewN_drewN _ _ _⟩ | exact ⟨rfl, _, Eq.trans (World.drewN_drewN _ _ _) (congrArg (World.drewN _) (Nat.add_assoc _ _ _))⟩)) | (go_at_call 67; (with_reducible refine (clock_bit.calls _ _ _ _ A26.out).mono ?_); rintro e w' ⟨rfl, ⟨nd, rfl⟩⟩; (try first | exact ⟨rfl, _, World.drewN_drewN _ _ _⟩ | exact ⟨rfl, _, Eq.trans (World.drewN_drewN _ _ _) (congrArg (World.drewN _) (Nat.add_assoc _ _ _))⟩))))
      go_ret2
      exact ⟨by first | rfl | (simp [errW_none, errW_some] <;> rfl) | (simp [*, errW_none, errW_some] <;> rfl), by repeat (first | (with_reducible first | exact HB.out | apply below_alloc | apply pw_below_drewN | apply below_drew1 | refine below_set ?_ GE111.out) | exact HB.out)⟩
     rotate_right
     case' _ =>
      rw [if_neg c24] at H
      have c24b0 : (a1 == 12) = false := beq_eq_false_iff_ne.mpr c24
      have c24b1 : (a1 != 12) = true := bne_iff_ne.mpr c24
      simp only [Option.some.injEq, Prod.mk.injEq] at H
      obtain ⟨rfl, rfl⟩ := H
 all_goals
  go_enter Try.func35, Try.ntmps35
  go_wp2_with (first | ((with_reducible refine gate_dst (N := 2) rfl ?_); refine box_event ?hg (N := 2) ?hd (cs := #[.int .u8 a0_0, .int .u8 a0_1, .int .u8 a0_2, .int .u16 a0_3, .bool a0_4, .bool a0_5]) (t := 34) ?hr ?_; (case hd => rfl); (case hg => rfl); (case hr => first | (go_simp; done) | (go_simp; rfl)); intro gb111 hg w900 hbox hb; have n0_ := Aside0.mk (below_step (by repeat (first | (with_reducible first | exact HB.out | apply below_alloc | apply pw_below_drewN | apply below_drew1) | exact HB.out)) hb); have n1_ := Aside0.mk (hbox); have n2_ := Aside0.mk ((by rw [hg]; exact (below_size (by repeat (first | (with_reducible first | exact HB.out | apply below_alloc | apply pw_below_drewN | apply below_drew1) | exact HB.out))) : w.heap.size ≤ gb111)); have n3_ := Aside0.mk ((by rw [hg]; exact (below_size (by repeat (first | (with_reducible first | exact HB.out | apply below_alloc | apply pw_below_drewN | apply below_drew1) | exact HB.out))) : w.heap.size ≤ gb111)); clear HB; have HB := n0_; have BK111 := n1_; have GW111 := n2_; have GE111 := n3_; clear n0_ n1_ n2_ n3_; clear hb hbox hg; have hcz901_0 : w900.cell? ⟨gb111, 0, none⟩ = some (.int .u8 a0_0) := (blk_cell BK111.out 0).trans rfl; have hcz901_1 : w900.cell? ⟨gb111, 1, none⟩ = some (.int .u8 a0_1) := (blk_cell BK111.out 1).trans rfl; have hcz901_2 : w900.cell? ⟨gb111, 2, none⟩ = some (.int .u8 a0_2) := (blk_cell BK111.out 2).trans rfl; have hcz901_3 : w900.cell? ⟨gb111, 3, none⟩ = some (.int .u16 a0_3) := (blk_cell BK111.out 3).trans rfl; have hcz901_4 : w900.cell? ⟨gb111, 4, none⟩ = some (.bool a0_4) := (blk_cell BK111.out 4).trans rfl; have hcz901_5 : w900.cell? ⟨gb111, 5, none⟩ = some (.bool a0_5) := (blk_cell BK111.out 5).trans rfl; have hfz901_0 := blk_frozen BK111.out 0; have hfz901_1 := blk_frozen BK111.out 1; have hfz901_2 := blk_frozen BK111.out 2; have hfz901_3 := blk_frozen BK111.out 3; have hfz901_4 := blk_frozen BK111.out 4; have hfz901_5 := blk_frozen BK111.out 5) | (go_at_call 66; (with_reducible refine (clock_Norm.calls _ _ _ _ _ _ _ _ _ _ _ _ _ A3.out).mono ?_); rintro e w902 ⟨rfl, hb⟩; have n0_ := Aside0.mk (blk_below (g := gb111) (o := .cells #[.int .u8 a0_0, .int .u8 a0_1, .int .u8 a0_2, .int .u16 a0_3, .bool a0_4, .bool a0_5] 34 (0, 0)) (by (with_reducible repeat (first | refine blk_drewN ?_ _ | refine blk_drew ?_ | refine blk_alloc ?_ _)); exact BK111.out) hb); have n1_ := Aside0.mk (below_step (by repeat (first | (with_reducible first | exact HB.out | apply below_alloc | apply pw_below_drewN | apply below_drew1 | refine below_set ?_ GE111.out) | exact HB.out)) hb); clear BK111; clear HB; have BK111 := n0_; have HB := n1_; clear n0_ n1_; (try clear hb); (try clear hb2); (try clear hk); (try clear hi); have hcz903_0 : w902.cell? ⟨gb111, 0, none⟩ = some (.int .u8 a0_0) := (blk_cell BK111.out 0).trans rfl; have hcz903_1 : w902.cell? ⟨gb111, 1, none⟩ = some (.int .u8 a0_1) := (blk_cell BK111.out 1).trans rfl; have hcz903_2 : w902.cell? ⟨gb111, 2, none⟩ = some (.int .u8 a0_2) := (blk_cell BK111.out 2).trans rfl; have hcz903_3 : w902.cell? ⟨gb111, 3, none⟩ = some (.int .u16 a0_3) := (blk_cell BK111.out 3).trans rfl; have hcz903_4 : w902.cell? ⟨gb111, 4, none⟩ = some (.bool a0_4) := (blk_cell BK111.out 4).trans rfl; have hcz903_5 : w902.cell? ⟨gb111, 5, none⟩ = some (.bool a0_5) := (blk_cell BK111.out 5).trans rfl; have hfz903_0 := blk_frozen BK111.out 0; have hfz903_1 := blk_frozen BK111.out 1; have hfz903_2 := blk_frozen BK111.out 2; have hfz903_3 := blk_frozen BK111.out 3; have hfz903_4 := blk_frozen BK111.out 4; have hfz903_5 := blk_frozen BK111.out 5))
  repeat (go_quiet (first | ((with_reducible refine gate_dst (N := 2) rfl ?_); refine box_event ?hg (N := 2) ?hd (cs := #[.int .u8 a0_0, .int .u8 a0_1, .int .u8 a0_2, .int .u16 a0_3, .bool a0_4, .bool a0_5]) (t := 34) ?hr ?_; (case hd => rfl); (case hg => rfl); (case hr => first | (go_simp; done) | (go_simp; rfl)); intro gb111 hg w900 hbox hb; have n0_ := Aside0.mk (below_step (by repeat (first | (with_reducible first | exact HB.out | apply below_alloc | apply pw_below_drewN | apply below_drew1) | exact HB.out)) hb); have n1_ := Aside0.mk (hbox); have n2_ := Aside0.mk ((by rw [hg]; exact (below_size (by repeat (first | (with_reducible first | exact HB.out | apply below_alloc | apply pw_below_drewN | apply below_drew1) | exact HB.out))) : w.heap.size ≤ gb111)); have n3_ := Aside0.mk ((by rw [hg]; exact (below_size (by repeat (first | (with_reducible first | exact HB.out | apply below_alloc | apply pw_below_drewN | apply below_drew1) | exact HB.out))) : w.heap.size ≤ gb111)); clear HB; have HB := n0_; have BK111 := n1_; have GW111 := n2_; have GE111 := n3_; clear n0_ n1_ n2_ n3_; clear hb hbox hg; have hcz901_0 : w900.cell? ⟨gb111, 0, none⟩ = some (.int .u8 a0_0) := (blk_cell BK111.out 0).trans rfl; have hcz901_1 : w900.cell? ⟨gb111, 1, none⟩ = some (.int .u8 a0_1) := (blk_cell BK111.out 1).trans rfl; have hcz901_2 : w900.cell? ⟨gb111, 2, none⟩ = some (.int .u8 a0_2) := (blk_cell BK111.out 2).trans rfl; have hcz901_3 : w900.cell? ⟨gb111, 3, none⟩ = some (.int .u16 a0_3) := (blk_cell BK111.out 3).trans rfl; have hcz901_4 : w900.cell? ⟨gb111, 4, none⟩ = some (.bool a0_4) := (blk_cell BK111.out 4).trans rfl; have hcz901_5 : w900.cell? ⟨gb111, 5, none⟩ = some (.bool a0_5) := (blk_cell BK111.out 5).trans rfl; have hfz901_0 := blk_frozen BK111.out 0; have hfz901_1 := blk_frozen BK111.out 1; have hfz901_2 := blk_frozen BK111.out 2; have hfz901_3 := blk_frozen BK111.out 3; have hfz901_4 := blk_frozen BK111.out 4; have hfz901_5 := blk_frozen BK111.out 5) | (go_at_call 66; (with_reducible refine (clock_Norm.calls _ _ _ _ _ _ _ _ _ _ _ _ _ A3.out).mono ?_); rintro e w902 ⟨rfl, hb⟩; have n0_ := Aside0.mk (blk_below (g := gb111) (o := .cells #[.int .u8 a0_0, .int .u8 a0_1, .int .u8 a0_2, .int .u16 a0_3, .bool a0_4, .bool a0_5] 34 (0, 0)) (by (with_reducible repeat (first | refine blk_drewN ?_ _ | refine blk_drew ?_ | refine blk_alloc ?_ _)); exact BK111.out) hb); have n1_ := Aside0.mk (below_step (by repeat (first | (with_reducible first | exact HB.out | apply below_alloc | apply pw_below_drewN | apply below_drew1 | refine below_set ?_ GE111.out) | exact HB.out)) hb); clear BK111; clear HB; have BK111 := n0_; have HB := n1_; clear n0_ n1_; (try clear hb); (try clear hb2); (try clear hk); (try clear hi); have hcz903_0 : w902.cell? ⟨gb111, 0, none⟩ = some (.int .u8 a0_0) := (blk_cell BK111.out 0).trans rfl; have hcz903_1 : w902.cell? ⟨gb111, 1, none⟩ = some (.int .u8 a0_1) := (blk_cell BK111.out 1).trans rfl; have hcz903_2 : w902.cell? ⟨gb111, 2, none⟩ = some (.int .u8 a0_2) := (blk_cell BK111.out 2).trans rfl; have hcz903_3 : w902.cell? ⟨gb111, 3, none⟩ = some (.int .u16 a0_3) := (blk_cell BK111.out 3).trans rfl; have hcz903_4 : w902.cell? ⟨gb111, 4, none⟩ = some (.bool a0_4) := (blk_cell BK111.out 4).trans rfl; have hcz903_5 : w902.cell? ⟨gb111, 5, none⟩ = some (.bool a0_5) := (blk_cell BK111.out 5).trans rfl; have hfz903_0 := blk_frozen BK111.out 0; have hfz903_1 := blk_frozen BK111.out 1; have hfz903_2 := blk_frozen BK111.out 2; have hfz903_3 := blk_frozen BK111.out 3; have hfz903_4 := blk_frozen BK111.out 4; have hfz903_5 := blk_frozen BK111.out 5)); try go_wp2_with (first | ((with_reducible refine gate_dst (N := 2) rfl ?_); refine box_event ?hg (N := 2) ?hd (cs := #[.int .u8 a0_0, .int .u8 a0_1, .int .u8 a0_2, .int .u16 a0_3, .bool a0_4, .bool a0_5]) (t := 34) ?hr ?_; (case hd => rfl); (case hg => rfl); (case hr => first | (go_simp; done) | (go_simp; rfl)); intro gb111 hg w900 hbox hb; have n0_ := Aside0.mk (below_step (by repeat (first | (with_reducible first | exact HB.out | apply below_alloc | apply pw_below_drewN | apply below_drew1) | exact HB.out)) hb); have n1_ := Aside0.mk (hbox); have n2_ := Aside0.mk ((by rw [hg]; exact (below_size (by repeat (first | (with_reducible first | exact HB.out | apply below_alloc | apply pw_below_drewN | apply below_drew1) | exact HB.out))) : w.heap.size ≤ gb111)); have n3_ := Aside0.mk ((by rw [hg]; exact (below_size (by repeat (first | (with_reducible first | exact HB.out | apply below_alloc | apply pw_below_drewN | apply below_drew1) | exact HB.out))) : w.heap.size ≤ gb111)); clear HB; have HB := n0_; have BK111 := n1_; have GW111 := n2_; have GE111 := n3_; clear n0_ n1_ n2_ n3_; clear hb hbox hg; have hcz901_0 : w900.cell? ⟨gb111, 0, none⟩ = some (.int .u8 a0_0) := (blk_cell BK111.out 0).trans rfl; have hcz901_1 : w900.cell? ⟨gb111, 1, none⟩ = some (.int .u8 a0_1) := (blk_cell BK111.out 1).trans rfl; have hcz901_2 : w900.cell? ⟨gb111, 2, none⟩ = some (.int .u8 a0_2) := (blk_cell BK111.out 2).trans rfl; have hcz901_3 : w900.cell? ⟨gb111, 3, none⟩ = some (.int .u16 a0_3) := (blk_cell BK111.out 3).trans rfl; have hcz901_4 : w900.cell? ⟨gb111, 4, none⟩ = some (.bool a0_4) := (blk_cell BK111.out 4).trans rfl; have hcz901_5 : w900.cell? ⟨gb111, 5, none⟩ = some (.bool a0_5) := (blk_cell BK111.out 5).trans rfl; have hfz901_0 := blk_frozen BK111.out 0; have hfz901_1 := blk_frozen BK111.out 1; have hfz901_2 := blk_frozen BK111.out 2; have hfz901_3 := blk_frozen BK111.out 3; have hfz901_4 := blk_frozen BK111.out 4; have hfz901_5 := blk_frozen BK111.out 5) | (go_at_call 66; (with_reducible refine (clock_Norm.calls _ _ _ _ _ _ _ _ _ _ _ _ _ A3.out).mono ?_); rintro e w902 ⟨rfl, hb⟩; have n0_ := Aside0.mk (blk_below (g := gb111) (o := .cells #[.int .u8 a0_0, .int .u8 a0_1, .int .u8 a0_2, .int .u16 a0_3, .bool a0_4, .bool a0_5] 34 (0, 0)) (by (with_reducible repeat (first | refine blk_drewN ?_ _ | refine blk_drew ?_ | refine blk_alloc ?_ _)); exact BK111.out) hb); have n1_ := Aside0.mk (below_step (by repeat (first | (with_reducible first | exact HB.out | apply below_alloc | apply pw_below_drewN | apply below_drew1 | refine below_set ?_ GE111.out) | exact HB.out)) hb); clear BK111; clear HB; have BK111 := n0_; have HB := n1_; clear n0_ n1_; (try clear hb); (try clear hb2); (try clear hk); (try clear hi); have hcz903_0 : w902.cell? ⟨gb111, 0, none⟩ = some (.int .u8 a0_0) := (blk_cell BK111.out 0).trans rfl; have hcz903_1 : w902.cell? ⟨gb111, 1, none⟩ = some (.int .u8 a0_1) := (blk_cell BK111.out 1).trans rfl; have hcz903_2 : w902.cell? ⟨gb111, 2, none⟩ = some (.int .u8 a0_2) := (blk_cell BK111.out 2).trans rfl; have hcz903_3 : w902.cell? ⟨gb111, 3, none⟩ = some (.int .u16 a0_3) := (blk_cell BK111.out 3).trans rfl; have hcz903_4 : w902.cell? ⟨gb111, 4, none⟩ = some (.bool a0_4) := (blk_cell BK111.out 4).trans rfl; have hcz903_5 : w902.cell? ⟨gb111, 5, none⟩ = some (.bool a0_5) := (blk_cell BK111.out 5).trans rfl; have hfz903_0 := blk_frozen BK111.out 0; have hfz903_1 := blk_frozen BK111.out 1; have hfz903_2 := blk_frozen BK111.out 2; have hfz903_3 := blk_frozen BK111.out 3; have hfz903_4 := blk_frozen BK111.out 4; have hfz903_5 := blk_frozen BK111.out 5)))
  go_ret2
  exact ⟨by first | rfl | (simp [errW_none, errW_some] <;> rfl) | (simp [*, errW_none, errW_some] <;> rfl), by repeat (first | (with_reducible first | exact HB.out | apply below_alloc | apply pw_below_drewN | apply below_drew1 | refine below_set ?_ GE111.out) | exact HB.out)⟩
end Go.Proofs.Ytmjjojbedllmgaa.G
end
section
namespace Go.Proofs.Ytmjjojbedllmgaa.Hand
end Go.Proofs.Ytmjjojbedllmgaa.Hand
end
section
namespace Go.Proofs.Ytmjjojbedllmgaa.G
open Go.RowKit Go.Proofs.YtmjjojbedllmgaaW.PrintWords Go.Proofs.YtmjjojbedllmgaaW.PrintLast Go.Proofs.YtmjjojbedllmgaaW.PrintMore
def whirligigref09_Norm.f (a0_0 : Int) (a0_1 : Int) (a0_2 : Int) (a0_3 : Int) (a0_4 : Bool) (a0_5 : Bool) : Option (Int × Int × Int × Int × Bool × Bool) := some (Int.tmod a0_0 64, Int.tmod a0_1 64, Int.tmod a0_2 32, Int.tmod a0_3 512, a0_4, a0_5)
theorem whirligigref09_Norm.calls (a0_0 : Int) (a0_1 : Int) (a0_2 : Int) (a0_3 : Int) (a0_4 : Bool) (a0_5 : Bool) (r1 : Int) (r2 : Int) (r3 : Int) (r4 : Int) (r5 : Bool) (r6 : Bool) (w : World) (h : whirligigref09_Norm.f a0_0 a0_1 a0_2 a0_3 a0_4 a0_5 = some (r1, r2, r3, r4, r5, r6)) :
  Calls Try.prog 72 #[.agg #[.int .u8 a0_0, .int .u8 a0_1, .int .u8 a0_2, .int .u16 a0_3, .bool a0_4, .bool a0_5]] w fun e w' => e = .returned (.agg #[.int .u8 r1, .int .u8 r2, .int .u8 r3, .int .u16 r4, .bool r5, .bool r6]) ∧ Below w.heap.size w w' := by
 have hu34 := Try.underlying34
 have HB := Aside0.mk (Below.refl w.heap.size w)
 have H : (some (Int.tmod a0_0 64, Int.tmod a0_1 64, Int.tmod a0_2 32, Int.tmod a0_3 512, a0_4, a0_5)) = some (r1, r2, r3, r4, r5, r6) := h
 clear h
 simp only [Option.some.injEq, Prod.mk.injEq] at H
 obtain ⟨rfl, rfl, rfl, rfl, rfl, rfl⟩ := H
 go_enter Try.func72, Try.ntmps72
 go_wp2_with (first | ((with_reducible refine gate_dst (N := 1) rfl ?_); refine box_event ?hg (N := 1) ?hd (cs := #[.int .u8 a0_0, .int .u8 a0_1, .int .u8 a0_2, .int .u16 a0_3, .bool a0_4, .bool a0_5]) (t := 34) ?hr ?_; (case hd => rfl); (case hg => rfl); (case hr => first | (go_simp; done) | (go_simp; rfl)); intro gb238 hg w2 hbox hb; have n0_ := Aside0.mk (below_step (by repeat (first | (with_reducible first | exact HB.out | apply below_alloc | apply pw_below_drewN | apply below_drew1) | exact HB.out)) hb); have n1_ := Aside0.mk (hbox); have n2_ := Aside0.mk ((by rw [hg]; exact (below_size (by repeat (first | (with_reducible first | exact HB.out | apply below_alloc | apply pw_below_drewN | apply below_drew1) | exact HB.out))) : w.heap.size ≤ gb238)); have n3_ := Aside0.mk ((by rw [hg]; exact (below_size (by repeat (first | (with_reducible first | exact HB.out | apply below_alloc | apply pw_below_drewN | apply below_drew1) | exact HB.out))) : w.heap.size ≤ gb238)); clear HB; have HB := n0_; have BK238 := n1_; have GW238 := n2_; have GE238 := n3_; clear n0_ n1_ n2_ n3_; clear hb hbox hg) | ((with_reducible refine gate_dst (N := 2) rfl ?_); refine box_event ?hg (N := 2) ?hd (cs := #[.int .u8 0, .int .u8 0, .int .u8 0, .int .u16 0, .bool false, .bool false]) (t := 34) ?hr ?_; (case hd => rfl); (case hg => rfl); (case hr => first | (go_simp; done) | (go_simp; rfl)); intro gb239 hg w3 hbox hb; have n0_ := Aside0.mk (blk_below (g := gb238) (o := .cells #[.int .u8 a0_0, .int .u8 a0_1, .int .u8 a0_2, .int .u16 a0_3, .bool a0_4, .bool a0_5] 34 (0, 0)) (by (with_reducible repeat (first | refine blk_drewN ?_ _ | refine blk_drew ?_ | refine blk_alloc ?_ _)); exact BK238.out) hb); have n1_ := Aside0.mk (below_step (by repeat (first | (with_reducible first | exact HB.out | apply below_alloc | apply pw_below_drewN | apply below_drew1 | refine below_set ?_ GE238.out) | exact HB.out)) hb); have n2_ := Aside0.mk (hbox); have n3_ := Aside0.mk ((by rw [hg]; exact (below_size (by repeat (first | (with_reducible first | exact HB.out | apply below_alloc | apply pw_below_drewN | apply below_drew1 | refine below_set ?_ GE238.out) | exact HB.out))) : w.heap.size ≤ gb239)); have n4_ := Aside0.mk ((by rw [hg]; exact (below_size (by repeat (first | (with_reducible first | exact HB.out | apply below_alloc | apply pw_below_drewN | apply below_drew1 | refine below_set ?_ GE238.out) | exact HB.out))) : w.heap.size ≤ gb239)); have n5_ := Aside0.mk ((by rw [hg]; exact Nat.ne_of_lt (blk_lt (g := gb238) (o := .cells #[.int .u8 a0_0, .int .u8 a0_1, .int .u8 a0_2, .int .u16 a0_3, .bool a0_4, .bool a0_5] 34 (0, 0)) (by (with_reducible repeat (first | refine blk_drewN ?_ _ | refine blk_drew ?_ | refine blk_alloc ?_ _)); exact BK238.out)) : gb238 ≠ gb239)); have n6_ := Aside0.mk ((by rw [hg]; exact Nat.ne_of_gt (blk_lt (g := gb238) (o := .cells #[.int .u8 a0_0, .int .u8 a0_1, .int .u8 a0_2, .int .u16 a0_3, .bool a0_4, .bool a0_5] 34 (0, 0)) (by (with_reducible repeat (first | refine blk_drewN ?_ _ | refine blk_drew ?_ | refine blk_alloc ?_ _)); exact BK238.out)) : gb239 ≠ gb238)); clear BK238; clear HB; have BK238 := n0_; have HB := n1_; have BK239 := n2_; have GW239 := n3_; have GE239 := n4_; have NB238_239 := n5_; have NB239_238 := n6_; clear n0_ n1_ n2_ n3_ n4_ n5_ n6_; clear hb hbox hg; have hnb4 := NB238_239.out; have hnc4 := NB239_238.out; have hcz5_0 : w3.cell? ⟨gb238, 0, none⟩ = some (.int .u8 a0_0) := (blk_cell BK238.out 0).trans rfl; have hcz5_1 : w3.cell? ⟨gb238, 1, none⟩ = some (.int .u8 a0_1) := (blk_cell BK238.out 1).trans rfl; have hcz5_2 : w3.cell? ⟨gb238, 2, none⟩ = some (.int .u8 a0_2) := (blk_cell BK238.out 2).trans rfl; have hcz5_3 : w3.cell? ⟨gb238, 3, none⟩ = some (.int .u16 a0_3) := (blk_cell BK238.out 3).trans rfl; have hcz5_4 : w3.cell? ⟨gb238, 4, none⟩ = some (.bool a0_4) := (blk_cell BK238.out 4).trans rfl; have hcz5_5 : w3.cell? ⟨gb238, 5, none⟩ = some (.bool a0_5) := (blk_cell BK238.out 5).trans rfl; have hfz5_0 := blk_frozen BK238.out 0; have hfz5_1 := blk_frozen BK238.out 1; have hfz5_2 := blk_frozen BK238.out 2; have hfz5_3 := blk_frozen BK238.out 3; have hfz5_4 := blk_frozen BK238.out 4; have hfz5_5 := blk_frozen BK238.out 5; have hcz6_0 : w3.cell? ⟨gb239, 0, none⟩ = some (.int .u8 0) := (blk_cell BK239.out 0).trans rfl; have hcz6_1 : w3.cell? ⟨gb239, 1, none⟩ = some (.int .u8 0) := (blk_cell BK239.out 1).trans rfl; have hcz6_2 : w3.cell? ⟨gb239, 2, none⟩ = some (.int .u8 0) := (blk_cell BK239.out 2).trans rfl; have hcz6_3 : w3.cell? ⟨gb239, 3, none⟩ = some (.int .u16 0) := (blk_cell BK239.out 3).trans rfl; have hcz6_4 : w3.cell? ⟨gb239, 4, none⟩ = some (.bool false) := (blk_cell BK239.out 4).trans rfl; have hcz6_5 : w3.cell? ⟨gb239, 5, none⟩ = some (.bool false) := (blk_cell BK239.out 5).trans rfl; have hfz6_0 := blk_frozen BK239.out 0; have hfz6_1 := blk_frozen BK239.out 1; have hfz6_2 := blk_frozen BK239.out 2; have hfz6_3 := blk_frozen BK239.out 3; have hfz6_4 := blk_frozen BK239.out 4; have hfz6_5 := blk_frozen BK239.out 5))
 refine bodyPost_ret (results_cell_row rfl _ _ gb239 34 #[.int .u8 (Int.tmod a0_0 64), .int .u8 (Int.tmod a0_1 64), .int .u8 (Int.tmod a0_2 32), .int .u16 (Int.tmod a0_3 512), .bool a0_4, .bool a0_5] (0, 0) _ rfl (by (with_reducible repeat (first | refine blk_drewN ?_ _ | refine blk_drew ?_ | refine blk_alloc ?_ _)); refine blk_put (cs := #[.int .u8 (Int.tmod a0_0 64), .int .u8 (Int.tmod a0_1 64), .int .u8 (Int.tmod a0_2 32), .int .u16 (Int.tmod a0_3 512), .bool a0_4, .bool false]) ?_ 5 _ rfl; (with_reducible repeat (first | refine blk_drewN ?_ _ | refine blk_drew ?_ | refine blk_alloc ?_ _)); refine blk_put (cs := #[.int .u8 (Int.tmod a0_0 64), .int .u8 (Int.tmod a0_1 64), .int .u8 (Int.tmod a0_2 32), .int .u16 (Int.tmod a0_3 512), .bool false, .bool false]) ?_ 4 _ rfl; (with_reducible repeat (first | refine blk_drewN ?_ _ | refine blk_drew ?_ | refine blk_alloc ?_ _)); refine blk_put (cs := #[.int .u8 (Int.tmod a0_0 64), .int .u8 (Int.tmod a0_1 64), .int .u8 (Int.tmod a0_2 32), .int .u16 0, .bool false, .bool false]) ?_ 3 _ rfl; (with_reducible repeat (first | refine blk_drewN ?_ _ | refine blk_drew ?_ | refine blk_alloc ?_ _)); refine blk_put (cs := #[.int .u8 (Int.tmod a0_0 64), .int .u8 (Int.tmod a0_1 64), .int .u8 0, .int .u16 0, .bool false, .bool false]) ?_ 2 _ rfl; (with_reducible repeat (first | refine blk_drewN ?_ _ | refine blk_drew ?_ | refine blk_alloc ?_ _)); refine blk_put (cs := #[.int .u8 (Int.tmod a0_0 64), .int .u8 0, .int .u8 0, .int .u16 0, .bool false, .bool false]) ?_ 1 _ rfl; (with_reducible repeat (first | refine blk_drewN ?_ _ | refine blk_drew ?_ | refine blk_alloc ?_ _)); refine blk_put (cs := #[.int .u8 0, .int .u8 0, .int .u8 0, .int .u16 0, .bool false, .bool false]) ?_ 0 _ rfl; (with_reducible repeat (first | refine blk_drewN ?_ _ | refine blk_drew ?_ | refine blk_alloc ?_ _)); exact BK239.out) Try.underlying34 rfl (by kernel_rfl)) rfl ?_
 exact ⟨by first | rfl | (simp [errW_none, errW_some] <;> rfl) | (simp [*, errW_none, errW_some] <;> rfl), by repeat (first | (with_reducible first | exact HB.out | apply below_alloc | apply pw_below_drewN | apply below_drew1 | refine below_set ?_ GE238.out | refine below_set ?_ GE239.out) | exact HB.out)⟩
end Go.Proofs.Ytmjjojbedllmgaa.G
end
section
namespace Go.Proofs.Ytmjjojbedllmgaa.Hand
open Go.RowKit
open Go.Proofs.Ytmjjojbedllmgaa.G
open Go.Proofs.YtmjjojbedllmgaaW.PrintWords Go.Proofs.YtmjjojbedllmgaaW.PrintLast Go.Proofs.YtmjjojbedllmgaaW.PrintMore
def clock_Write.f (a0_0 : Int) (a0_1 : Int) (a0_2 : Int) (a0_3 : Int) (a0_4 : Bool) (a0_5 : Bool) (a1 : Int) (a2 : Int) : Option (Int × Int × Int × Int × Bool × Bool × Int) := (clock_Norm.f a0_0 a0_1 a0_2 a0_3 a0_4 a0_5).bind fun bt340 => (if a1 = 8 then ((clock_Norm.f a2 bt340.2.1 bt340.2.2.1 bt340.2.2.2.1 bt340.2.2.2.2.1 bt340.2.2.2.2.2).bind fun bt346 => (some (bt346.1, bt346.2.1, bt346.2.2.1, bt346.2.2.2.1, bt346.2.2.2.2.1, bt346.2.2.2.2.2, 0))) else (if a1 = 9 then ((clock_Norm.f bt340.1 a2 bt340.2.2.1 bt340.2.2.2.1 bt340.2.2.2.2.1 bt340.2.2.2.2.2).bind fun bt352 => (some (bt352.1, bt352.2.1, bt352.2.2.1, bt352.2.2.2.1, bt352.2.2.2.2.1, bt352.2.2.2.2.2, 0))) else (if a1 = 10 then ((clock_Norm.f bt340.1 bt340.2.1 a2 bt340.2.2.2.1 bt340.2.2.2.2.1 bt340.2.2.2.2.2).bind fun bt358 => (some (bt358.1, bt358.2.1, bt358.2.2.1, bt358.2.2.2.1, bt358.2.2.2.2.1, bt358.2.2.2.2.2, 0))) else (if a1 = 11 then ((clock_Norm.f bt340.1 bt340.2.1 bt340.2.2.1 (Go.bits .or .u16 (Go.bits .and .u16 bt340.2.2.2.1 256) (IntKind.u16.wrap (a2))) bt340.2.2.2.2.1 bt340.2.2.2.2.2).bind fun bt364 => (some (bt364.1, bt364.2.1, bt364.2.2.1, bt364.2.2.2.1, bt364.2.2.2.2.1, bt364.2.2.2.2.2, 0))) else (if a1 = 12 then ((clock_Norm.f bt340.1 bt340.2.1 bt340.2.2.1 (Go.bits .or .u16 (Go.bits .and .u16 bt340.2.2.2.1 255) (IntKind.u16.wrap ((IntKind.u16.wrap (Go.bits .and .u8 a2 1)) * 256))) ((Go.bits .and .u8 a2 64) != 0) ((Go.bits .and .u8 a2 128) != 0)).bind fun bt370 => (some (bt370.1, bt370.2.1, bt370.2.2.1, bt370.2.2.2.1, bt370.2.2.2.2.1, bt370.2.2.2.2.2, 0))) else (some (0, 0, 0, 0, false, false, 7)))))))
theorem clock_Write.calls (a0_0 a0_1 a0_2 a0_3 : Int) (a0_4 a0_5 : Bool) (a1 a2 : Int) (r1 r2 r3 r4 : Int) (r5 r6 : Bool) (r7 : Int) (w : World) (h : clock_Write.f a0_0 a0_1 a0_2 a0_3 a0_4 a0_5 a1 a2 = some (r1, r2, r3, r4, r5, r6, r7)) :
  Calls Try.prog 43 #[.agg #[.int .u8 a0_0, .int .u8 a0_1, .int .u8 a0_2, .int .u16 a0_3, .bool a0_4, .bool a0_5], .int .i64 a1, .int .u8 a2] w fun e w' => e = .returned (.tuple #[.agg #[.int .u8 r1, .int .u8 r2, .int .u8 r3, .int .u16 r4, .bool r5, .bool r6], .int .i64 r7]) ∧ Below w.heap.size w w' := by
 unfold clock_Write.f clock_Norm.f at h
 simp only [Option.bind_some] at h
 by_cases c8 : a1 = 8
 ·subst c8
  rw [if_pos rfl] at h
  cases h
  go_enter Try.func43, Try.ntmps43
  go_wp2
  go_returns
  exact ⟨rfl, by go_grown⟩
 rw [if_neg c8] at h
 by_cases c9 : a1 = 9
 ·subst c9
  rw [if_pos rfl] at h
  cases h
  go_enter Try.func43, Try.ntmps43
  go_wp2
  go_returns
  exact ⟨rfl, by go_grown⟩
 rw [if_neg c9] at h
 by_cases c10 : a1 = 10
 ·subst c10
  rw [if_pos rfl] at h
  cases h
  go_enter Try.func43, Try.ntmps43
  go_wp2
  go_returns
  exact ⟨rfl, by go_grown⟩
 rw [if_neg c10] at h
 by_cases c11 : a1 = 11
 ·subst c11
  rw [if_pos rfl] at h
  cases h
  go_enter Try.func43, Try.ntmps43
  go_wp2
  go_returns
  exact ⟨rfl, by go_grown⟩
 rw [if_neg c11] at h
 by_cases c12 : a1 = 12
 ·subst c12
  rw [if_pos rfl] at h
  cases h
  go_enter Try.func43, Try.ntmps43
  go_wp2
  go_returns
  exact ⟨rfl, by go_grown⟩
 rw [if_neg c12] at h
 cases h
 go_enter Try.func43, Try.ntmps43
 go_wp2
 go_returns
 exact ⟨rfl, by go_grown⟩
end Go.Proofs.Ytmjjojbedllmgaa.Hand
end
section
namespace Go.Proofs.Ytmjjojbedllmgaa.Hand
end Go.Proofs.Ytmjjojbedllmgaa.Hand
end
section
namespace Go.Proofs.Ytmjjojbedllmgaa.Hand
end Go.Proofs.Ytmjjojbedllmgaa.Hand
end
section
namespace Go.Proofs.Ytmjjojbedllmgaa.Hand
end Go.Proofs.Ytmjjojbedllmgaa.Hand
end
section
namespace Go.Proofs.Ytmjjojbedllmgaa.Hand
end Go.Proofs.Ytmjjojbedllmgaa.Hand
end
section
namespace Go.Proofs.Ytmjjojbedllmgaa.Pure
open Go.RowKit Go.Proofs.Ytmjjojbedllmgaa.G Go.Proofs.Ytmjjojbedllmgaa.Hand
open Go.Proofs.YtmjjojbedllmgaaW.PrintWords Go.Proofs.YtmjjojbedllmgaaW.PrintLast Go.Proofs.YtmjjojbedllmgaaW.PrintMore
theorem u8_and63 (x : Int) (h : 0 ≤ x ∧ x ≤ 255) : Go.bits .and .u8 x 63 = x % 64 :=
 bits_mask .u8 8 (by decide) (fun n a b => by rw [IntKind.wrap_u8]; omega) 6 (by decide) x h.1 (by show x < 256; omega)
theorem u8_and31 (x : Int) (h : 0 ≤ x ∧ x ≤ 255) : Go.bits .and .u8 x 31 = x % 32 :=
 bits_mask .u8 8 (by decide) (fun n a b => by rw [IntKind.wrap_u8]; omega) 5 (by decide) x h.1 (by show x < 256; omega)
theorem u16_and511 (x : Int) (h : 0 ≤ x ∧ x ≤ 65535) : Go.bits .and .u16 x 511 = x % 512 :=
 bits_mask .u16 16 (by decide) (fun n a b => by rw [IntKind.wrap_u16]; omega) 9 (by decide) x h.1 (by show x < 65536; omega)
abbrev C := Int × Int × Int × Int × Bool × Bool
def wide (c : C) : Prop := (0 ≤ c.1 ∧ c.1 ≤ 255) ∧ (0 ≤ c.2.1 ∧ c.2.1 ≤ 255) ∧ (0 ≤ c.2.2.1 ∧ c.2.2.1 ≤ 255) ∧ (0 ≤ c.2.2.2.1 ∧ c.2.2.2.1 ≤ 65535)
def okC (c : C) : Prop := (0 ≤ c.1 ∧ c.1 ≤ 63) ∧ (0 ≤ c.2.1 ∧ c.2.1 ≤ 63) ∧ (0 ≤ c.2.2.1 ∧ c.2.2.1 ≤ 31) ∧ (0 ≤ c.2.2.2.1 ∧ c.2.2.2.1 ≤ 511)
theorem okC.wide {c : C} (h : okC c) : wide c := by
 obtain ⟨h1, h2, h3, h4⟩ := h
 exact ⟨by omega, by omega, by omega, by omega⟩
def nm (c : C) : C := (c.1 % 64, c.2.1 % 64, c.2.2.1 % 32, c.2.2.2.1 % 512, c.2.2.2.2.1, c.2.2.2.2.2)
theorem nm_ok (c : C) : okC (nm c) := by
 unfold okC nm; dsimp only; omega
theorem nm_of {c : C} (h : okC c) : nm c = c := by
 obtain ⟨s, m, hh, d, ht, cy⟩ := c
 unfold okC at h; dsimp only at h
 unfold nm; dsimp only
 rw [show s % 64 = s by omega, show m % 64 = m by omega, show hh % 32 = hh by omega, show d % 512 = d by omega]
theorem norm_prog (c : C) (h : wide c) : clock_Norm.f c.1 c.2.1 c.2.2.1 c.2.2.2.1 c.2.2.2.2.1 c.2.2.2.2.2 = some (nm c) := by
 obtain ⟨h1, h2, h3, h4⟩ := h
 unfold clock_Norm.f nm
 rw [u8_and63 _ h1, u8_and63 _ h2, u8_and31 _ h3, u16_and511 _ h4]
def rdC (c : C) (r : Int) : Int × Int :=
 if r = 8 then (c.1, 0) else if r = 9 then (c.2.1, 0) else if r = 10 then (c.2.2.1, 0) else if r = 11 then (c.2.2.2.1 % 256, 0) else
 if r = 12 then (Go.bits .or .u8 (Go.bits .or .u8 ((c.2.2.2.1 / 256) % 256) (if c.2.2.2.2.1 = true then 64 else 0)) (if c.2.2.2.2.2 = true then 128 else 0), 0) else (0, 7)
theorem read_prog (c : C) (h : wide c) (r : Int) : clock_Read.f c.1 c.2.1 c.2.2.1 c.2.2.2.1 c.2.2.2.2.1 c.2.2.2.2.2 r = some (rdC (nm c) r) := by
 unfold clock_Read.f rdC
 rw [norm_prog c h]
 simp only [Option.bind_some]
 have hb : ∀ (x : Bool) (n : Int), clock_bit.f x n = some (if x = true then n else 0) := by intro x n; unfold clock_bit.f; cases x <;> rfl
 rw [hb, hb]
 simp only [Option.bind_some]
 split
 ·rfl
 split
 ·rfl
 split
 ·rfl
 split
 ·rfl
 split <;> rfl
end Go.Proofs.Ytmjjojbedllmgaa.Pure
end
section
namespace Go.Proofs.Ytmjjojbedllmgaa.G
end Go.Proofs.Ytmjjojbedllmgaa.G
end
section
namespace Go.Proofs.Ytmjjojbedllmgaa.G
end Go.Proofs.Ytmjjojbedllmgaa.G
end
section
namespace Go.Proofs.Ytmjjojbedllmgaa.G
open Go.RowKit Go.Proofs.YtmjjojbedllmgaaW.PrintWords Go.Proofs.YtmjjojbedllmgaaW.PrintLast Go.Proofs.YtmjjojbedllmgaaW.PrintMore
def whirligigref09_Read.f (a0_0 : Int) (a0_1 : Int) (a0_2 : Int) (a0_3 : Int) (a0_4 : Bool) (a0_5 : Bool) (a1 : Int) : Option (Int × Int) := (whirligigref09_Norm.f a0_0 a0_1 a0_2 a0_3 a0_4 a0_5).bind fun bt241 => (if a1 = 8 then (some (bt241.1, 0)) else (if a1 = 9 then (some (bt241.2.1, 0)) else (if a1 = 10 then (some (bt241.2.2.1, 0)) else (if a1 = 11 then (some ((Int.tmod bt241.2.2.2.1 256) % 256, 0)) else (if a1 = 12 then (if bt241.2.2.2.2.1 = true then (if bt241.2.2.2.2.2 = true then (some ((((((IntKind.u16.wrap (Int.tdiv bt241.2.2.2.1 256)) % 256) + 64) % 256) + 128) % 256, 0)) else (some ((((IntKind.u16.wrap (Int.tdiv bt241.2.2.2.1 256)) % 256) + 64) % 256, 0))) else (if bt241.2.2.2.2.2 = true then (some ((((IntKind.u16.wrap (Int.tdiv bt241.2.2.2.1 256)) % 256) + 128) % 256, 0)) else (some ((IntKind.u16.wrap (Int.tdiv bt241.2.2.2.1 256)) % 256, 0)))) else (some (0, 7)))))))
theorem whirligigref09_Read.calls (a0_0 : Int) (a0_1 : Int) (a0_2 : Int) (a0_3 : Int) (a0_4 : Bool) (a0_5 : Bool) (a1 : Int) (r1 : Int) (r2 : Int) (w : World) (h : whirligigref09_Read.f a0_0 a0_1 a0_2 a0_3 a0_4 a0_5 a1 = some (r1, r2)) :
  Calls Try.prog 39 #[.agg #[.int .u8 a0_0, .int .u8 a0_1, .int .u8 a0_2, .int .u16 a0_3, .bool a0_4, .bool a0_5], .int .i64 a1] w fun e w' => e = .returned (.tuple #[.int .u8 r1, .int .i64 r2]) ∧ Below w.heap.size w w' := by
 have hu34 := Try.underlying34
 have HB := Aside0.mk (Below.refl w.heap.size w)
 have H : ((whirligigref09_Norm.f a0_0 a0_1 a0_2 a0_3 a0_4 a0_5).bind fun bt241 => (if a1 = 8 then (some (bt241.1, 0)) else (if a1 = 9 then (some (bt241.2.1, 0)) else (if a1 = 10 then (some (bt241.2.2.1, 0)) else (if a1 = 11 then (some ((Int.tmod bt241.2.2.2.1 256) % 256, 0)) else (if a1 = 12 then (if bt241.2.2.2.2.1 = true then (if bt241.2.2.2.2.2 = true then (some ((((((IntKind.u16.wrap (Int.tdiv bt241.2.2.2.1 256)) % 256) + 64) % 256) + 128) % 256, 0)) else (some ((((IntKind.u16.wrap (Int.tdiv bt241.2.2.2.1 256)) % 256) + 64) % 256, 0))) else (if bt241.2.2.2.2.2 = true then (some ((((IntKind.u16.wrap (Int.tdiv bt241.2.2.2.1 256)) % 256) + 128) % 256, 0)) else (some ((IntKind.u16.wrap (Int.tdiv bt241.2.2.2.1 256)) % 256, 0)))) else (some (0, 7)))))))) = some (r1, r2) := h
 clear h
 replace H := Option.bind_eq_some_iff.mp H
 obtain ⟨⟨t241, t242, t243, t244, t245, t246⟩, A30, H⟩ := H
 replace H : (if a1 = 8 then (some (t241, 0)) else (if a1 = 9 then (some (t242, 0)) else (if a1 = 10 then (some (t243, 0)) else (if a1 = 11 then (some ((Int.tmod t244 256) % 256, 0)) else (if a1 = 12 then (if t245 = true then (if t246 = true then (some ((((((IntKind.u16.wrap (Int.tdiv t244 256)) % 256) + 64) % 256) + 128) % 256, 0)) else (some ((((IntKind.u16.wrap (Int.tdiv t244 256)) % 256) + 64) % 256, 0))) else (if t246 = true then (some ((((IntKind.u16.wrap (Int.tdiv t244 256)) % 256) + 128) % 256, 0)) else (some ((IntKind.u16.wrap (Int.tdiv t244 256)) % 256, 0)))) else (some (0, 7))))))) = some (r1, r2) := H
 have A3 := Aside0.mk A30
 clear A30
 by_cases c4 : a1 = 8
 case' _ =>
  rw [if_pos c4] at H
  have c4b0 : (a1 == 8) = true := beq_iff_eq.mpr c4
  have c4b1 : (a1 != 8) = false := bne_eq_false_iff_eq.mpr c4
  clear c4
  simp only [Option.some.injEq, Prod.mk.injEq] at H
  obtain ⟨rfl, rfl⟩ := H
 rotate_right
 case' _ =>
  rw [if_neg c4] at H
  have c4b0 : (a1 == 8) = false := beq_eq_false_iff_ne.mpr c4
  have c4b1 : (a1 != 8) = true := bne_iff_ne.mpr c4
  by_cases c11 : a1 = 9
  case' _ =>
   rw [if_pos c11] at H
   have c11b0 : (a1 == 9) = true := beq_iff_eq.mpr c11
   have c11b1 : (a1 != 9) = false := bne_eq_false_iff_eq.mpr c11
   clear c11
   simp only [Option.some.injEq, Prod.mk.injEq] at H
   obtain ⟨rfl, rfl⟩ := H
  rotate_right
  case' _ =>
   rw [if_neg c11] at H
   have c11b0 : (a1 == 9) = false := beq_eq_false_iff_ne.mpr c11
   have c11b1 : (a1 != 9) = true := bne_iff_ne.mpr c11
   by_cases c18 : a1 = 10
   case' _ =>
    rw [if_pos c18] at H
    have c18b0 : (a1 == 10) = true := beq_iff_eq.mpr c18
    have c18b1 : (a1 != 10) = false := bne_eq_false_iff_eq.mpr c18
    clear c18
    simp only [Option.some.injEq, Prod.mk.injEq] at H
    obtain ⟨rfl, rfl⟩ := H
   rotate_right
   case' _ =>
    rw [if_neg c18] at H
    have c18b0 : (a1 == 10) = false := beq_eq_false_iff_ne.mpr c18
    have c18b1 : (a1 != 10) = true := bne_iff_ne.mpr c18
    by_cases c25 : a1 = 11
    case' _ =>
     rw [if_pos c25] at H
     have c25b0 : (a1 == 11) = true := beq_iff_eq.mpr c25
     have c25b1 : (a1 != 11) = false := bne_eq_false_iff_eq.mpr c25
     clear c25
     simp only [Option.some.injEq, Prod.mk.injEq] at H
     obtain ⟨rfl, rfl⟩ := H
    rotate_right
    case' _ =>
     rw [if_neg c25] at H
     have c25b0 : (a1 == 11) = false := beq_eq_false_iff_ne.mpr c25
     have c25b1 : (a1 != 11) = true := bne_iff_ne.mpr c25
     by_cases c32 : a1 = 12
     case' _ =>
      rw [if_pos c32] at H
      have c32b0 : (a1 == 12) = true := beq_iff_eq.mpr c32
      have c32b1 : (a1 != 12) = false := bne_eq_false_iff_eq.mpr c32
      clear c32
      by_cases c33 : t245 = true
      case' _ =>
       subst c33
       have H1 : (if t246 = true then (some ((((((IntKind.u16.wrap (Int.tdiv t244 256)) % 256) + 64) % 256) + 128) % 256, 0)) else (some ((((IntKind.u16.wrap (Int.tdiv t244 256)) % 256) + 64) % 256, 0))) = some (r1, r2) := by rw [if_pos rfl] at H; exact H
       clear H
       have H := H1
       clear H1
       by_cases c34 : t246 = true
       case' _ =>
        subst c34
        have H1 : (some ((((((IntKind.u16.wrap (Int.tdiv t244 256)) % 256) + 64) % 256) + 128) % 256, 0)) = some (r1, r2) := by rw [if_pos rfl] at H; exact H
        clear H
        have H := H1
        clear H1
        simp only [Option.some.injEq, Prod.mk.injEq] at H
        obtain ⟨rfl, rfl⟩ := H
       rotate_right
       case' _ =>
        replace c34 := Bool.eq_false_iff.mpr c34
        subst c34
        have H1 : (some ((((IntKind.u16.wrap (Int.tdiv t244 256)) % 256) + 64) % 256, 0)) = some (r1, r2) := by rw [if_neg (show ¬ (false = true) by decide)] at H; exact H
        clear H
        have H := H1
        clear H1
        simp only [Option.some.injEq, Prod.mk.injEq] at H
        obtain ⟨rfl, rfl⟩ := H
      rotate_right
      case' _ =>
       replace c33 := Bool.eq_false_iff.mpr c33
       subst c33
       have H1 : (if t246 = true then (some ((((IntKind.u16.wrap (Int.tdiv t244 256)) % 256) + 128) % 256, 0)) else (some ((IntKind.u16.wrap (Int.tdiv t244 256)) % 256, 0))) = some (r1, r2) := by rw [if_neg (show ¬ (false = true) by decide)] at H; exact H
       clear H
       have H := H1
       clear H1
       by_cases c47 : t246 = true
       case' _ =>
        subst c47
        have H1 : (some ((((IntKind.u16.wrap (Int.tdiv t244 256)) % 256) + 128) % 256, 0)) = some (r1, r2) := by rw [if_pos rfl] at H; exact H
        clear H
        have H := H1
        clear H1
        simp only [Option.some.injEq, Prod.mk.injEq] at H
        obtain ⟨rfl, rfl⟩ := H
       rotate_right
       case' _ =>
        replace c47 := Bool.eq_false_iff.mpr c47
        subst c47
        have H1 : (some ((IntKind.u16.wrap (Int.tdiv t244 256)) % 256, 0)) = some (r1, r2) := by rw [if_neg (show ¬ (false = true) by decide)] at H; exact H
        clear H
        have H := H1
        clear H1
        simp only [Option.some.injEq, Prod.mk.injEq] at H
        obtain ⟨rfl, rfl⟩ := H
     rotate_right
     case' _ =>
      rw [if_neg c32] at H
      have c32b0 : (a1 == 12) = false := beq_eq_false_iff_ne.mpr c32
      have c32b1 : (a1 != 12) = true := bne_iff_ne.mpr c32
      simp only [Option.some.injEq, Prod.mk.injEq] at H
      obtain ⟨rfl, rfl⟩ := H
 all_goals
  go_enter Try.func39, Try.ntmps39
  go_wp2_with (first | ((with_reducible refine gate_dst (N := 2) rfl ?_); refine box_event ?hg (N := 2) ?hd (cs := #[.int .u8 a0_0, .int .u8 a0_1, .int .u8 a0_2, .int .u16 a0_3, .bool a0_4, .bool a0_5]) (t := 34) ?hr ?_; (case hd => rfl); (case hg => rfl); (case hr => first | (go_simp; done) | (go_simp; rfl)); intro gb240 hg w900 hbox hb; have n0_ := Aside0.mk (below_step (by repeat (first | (with_reducible first | exact HB.out | apply below_alloc | apply pw_below_drewN | apply below_drew1) | exact HB.out)) hb); have n1_ := Aside0.mk (hbox); have n2_ := Aside0.mk ((by rw [hg]; exact (below_size (by repeat (first | (with_reducible first | exact HB.out | apply below_alloc | apply pw_below_drewN | apply below_drew1) | exact HB.out))) : w.heap.size ≤ gb240)); have n3_ := Aside0.mk ((by rw [hg]; exact (below_size (by repeat (first | (with_reducible first | exact HB.out | apply below_alloc | apply pw_below_drewN | apply below_drew1) | exact HB.out))) : w.heap.size ≤ gb240)); clear HB; have HB := n0_; have BK240 := n1_; have GW240 := n2_; have GE240 := n3_; clear n0_ n1_ n2_ n3_; clear hb hbox hg; have hcz901_0 : w900.cell? ⟨gb240, 0, none⟩ = some (.int .u8 a0_0) := (blk_cell BK240.out 0).trans rfl; have hcz901_1 : w900.cell? ⟨gb240, 1, none⟩ = some (.int .u8 a0_1) := (blk_cell BK240.out 1).trans rfl; have hcz901_2 : w900.cell? ⟨gb240, 2, none⟩ = some (.int .u8 a0_2) := (blk_cell BK240.out 2).trans rfl; have hcz901_3 : w900.cell? ⟨gb240, 3, none⟩ = some (.int .u16 a0_3) := (blk_cell BK240.out 3).trans rfl; have hcz901_4 : w900.cell? ⟨gb240, 4, none⟩ = some (.bool a0_4) := (blk_cell BK240.out 4).trans rfl; have hcz901_5 : w900.cell? ⟨gb240, 5, none⟩ = some (.bool a0_5) := (blk_cell BK240.out 5).trans rfl; have hfz901_0 := blk_frozen BK240.out 0; have hfz901_1 := blk_frozen BK240.out 1; have hfz901_2 := blk_frozen BK240.out 2; have hfz901_3 := blk_frozen BK240.out 3; have hfz901_4 := blk_frozen BK240.out 4; have hfz901_5 := blk_frozen BK240.out 5) | ((with_reducible refine gate_callee (f := 72) rfl ?_); refine goesL_ (some 9) rfl rfl Try.func72 (by kernel_rfl) rfl #[.agg #[.int .u8 a0_0, .int .u8 a0_1, .int .u8 a0_2, .int .u16 a0_3, .bool a0_4, .bool a0_5]] rfl (by (try simp only [List.map_toArray, List.map_cons, List.map_nil]); first | done | rfl | (simp only [List.length_drop, List.length_take]; rfl)) ?_; (with_reducible refine (whirligigref09_Norm.calls _ _ _ _ _ _ _ _ _ _ _ _ _ A3.out).mono ?_); rintro e w902 ⟨rfl, hb⟩; refine ⟨_, rfl, ?_⟩; have n0_ := Aside0.mk (blk_below (g := gb240) (o := .cells #[.int .u8 a0_0, .int .u8 a0_1, .int .u8 a0_2, .int .u16 a0_3, .bool a0_4, .bool a0_5] 34 (0, 0)) (by (with_reducible repeat (first | refine blk_drewN ?_ _ | refine blk_drew ?_ | refine blk_alloc ?_ _)); exact BK240.out) hb); have n1_ := Aside0.mk (below_step (by repeat (first | (with_reducible first | exact HB.out | apply below_alloc | apply pw_below_drewN | apply below_drew1 | refine below_set ?_ GE240.out) | exact HB.out)) hb); clear BK240; clear HB; have BK240 := n0_; have HB := n1_; clear n0_ n1_; (try clear hb); (try clear hb2); (try clear hk); (try clear hi)) | ((with_reducible refine gate_dst (N := 6) rfl ?_); refine box_event ?hg (N := 6) ?hd (cs := #[.int .u8 0, .int .u8 0, .int .u8 0, .int .u16 0, .bool false, .bool false]) (t := 34) ?hr ?_; (case hd => rfl); (case hg => rfl); (case hr => first | (go_simp; done) | (go_simp; rfl)); intro gb247 hg w903 hbox hb; have n0_ := Aside0.mk (blk_below (g := gb240) (o := .cells #[.int .u8 a0_0, .int .u8 a0_1, .int .u8 a0_2, .int .u16 a0_3, .bool a0_4, .bool a0_5] 34 (0, 0)) (by (with_reducible repeat (first | refine blk_drewN ?_ _ | refine blk_drew ?_ | refine blk_alloc ?_ _)); exact BK240.out) hb); have n1_ := Aside0.mk (below_step (by repeat (first | (with_reducible first | exact HB.out | apply below_alloc | apply pw_below_drewN | apply below_drew1 | refine below_set ?_ GE240.out) | exact HB.out)) hb); have n2_ := Aside0.mk (hbox); have n3_ := Aside0.mk ((by rw [hg]; exact (below_size (by repeat (first | (with_reducible first | exact HB.out | apply below_alloc | apply pw_below_drewN | apply below_drew1 | refine below_set ?_ GE240.out) | exact HB.out))) : w.heap.size ≤ gb247)); have n4_ := Aside0.mk ((by rw [hg]; exact (below_size (by repeat (first | (with_reducible first | exact HB.out | apply below_alloc | apply pw_below_drewN | apply below_drew1 | refine below_set ?_ GE240.out) | exact HB.out))) : w.heap.size ≤ gb247)); have n5_ := Aside0.mk ((by rw [hg]; exact Nat.ne_of_lt (blk_lt (g := gb240) (o := .cells #[.int .u8 a0_0, .int .u8 a0_1, .int .u8 a0_2, .int .u16 a0_3, .bool a0_4, .bool a0_5] 34 (0, 0)) (by (with_reducible repeat (first | refine blk_drewN ?_ _ | refine blk_drew ?_ | refine blk_alloc ?_ _)); exact BK240.out)) : gb240 ≠ gb247)); have n6_ := Aside0.mk ((by rw [hg]; exact Nat.ne_of_gt (blk_lt (g := gb240) (o := .cells #[.int .u8 a0_0, .int .u8 a0_1, .int .u8 a0_2, .int .u16 a0_3, .bool a0_4, .bool a0_5] 34 (0, 0)) (by (with_reducible repeat (first | refine blk_drewN ?_ _ | refine blk_drew ?_ | refine blk_alloc ?_ _)); exact BK240.out)) : gb247 ≠ gb240)); clear BK240; clear HB; have BK240 := n0_; have HB := n1_; have BK247 := n2_; have GW247 := n3_; have GE247 := n4_; have NB240_247 := n5_; have NB247_240 := n6_; clear n0_ n1_ n2_ n3_ n4_ n5_ n6_; clear hb hbox hg; have hnb904 := NB247_240.out; have hnc904 := NB240_247.out; have hcz905_0 : w903.cell? ⟨gb247, 0, none⟩ = some (.int .u8 0) := (blk_cell BK247.out 0).trans rfl; have hcz905_1 : w903.cell? ⟨gb247, 1, none⟩ = some (.int .u8 0) := (blk_cell BK247.out 1).trans rfl; have hcz905_2 : w903.cell? ⟨gb247, 2, none⟩ = some (.int .u8 0) := (blk_cell BK247.out 2).trans rfl; have hcz905_3 : w903.cell? ⟨gb247, 3, none⟩ = some (.int .u16 0) := (blk_cell BK247.out 3).trans rfl; have hcz905_4 : w903.cell? ⟨gb247, 4, none⟩ = some (.bool false) := (blk_cell BK247.out 4).trans rfl; have hcz905_5 : w903.cell? ⟨gb247, 5, none⟩ = some (.bool false) := (blk_cell BK247.out 5).trans rfl; have hfz905_0 := blk_frozen BK247.out 0; have hfz905_1 := blk_frozen BK247.out 1; have hfz905_2 := blk_frozen BK247.out 2; have hfz905_3 := blk_frozen BK247.out 3; have hfz905_4 := blk_frozen BK247.out 4; have hfz905_5 := blk_frozen BK247.out 5))
  go_ret2
  exact ⟨by first | rfl | (simp [errW_none, errW_some] <;> rfl) | (simp [*, errW_none, errW_some] <;> rfl), by repeat (first | (with_reducible first | exact HB.out | apply below_alloc | apply pw_below_drewN | apply below_drew1 | refine below_set ?_ GE240.out | refine below_set ?_ GE247.out) | exact HB.out)⟩
end Go.Proofs.Ytmjjojbedllmgaa.G
end
section
namespace Go.Proofs.Ytmjjojbedllmgaa.Pure
open Go.RowKit Go.Proofs.Ytmjjojbedllmgaa.G Go.Proofs.Ytmjjojbedllmgaa.Hand
open Go.Proofs.YtmjjojbedllmgaaW.PrintWords Go.Proofs.YtmjjojbedllmgaaW.PrintLast Go.Proofs.YtmjjojbedllmgaaW.PrintMore
theorem norm_ref (c : C) (h : wide c) : whirligigref09_Norm.f c.1 c.2.1 c.2.2.1 c.2.2.2.1 c.2.2.2.2.1 c.2.2.2.2.2 = some (nm c) := by
 obtain ⟨h1, h2, h3, h4⟩ := h
 unfold whirligigref09_Norm.f nm
 rw [Int.tmod_eq_emod_of_nonneg h1.1, Int.tmod_eq_emod_of_nonneg h2.1, Int.tmod_eq_emod_of_nonneg h3.1, Int.tmod_eq_emod_of_nonneg h4.1]
theorem high_all : ∀ (v : Fin 512) (a b : Bool), Go.bits .or .u8 (Go.bits .or .u8 (((v.val : Int) / 256) % 256) (if a = true then 64 else 0)) (if b = true then 128 else 0) = (if a = true then (if b = true then ((((((IntKind.u16.wrap (Int.tdiv (v.val : Int) 256)) % 256) + 64) % 256) + 128) % 256) else (((IntKind.u16.wrap (Int.tdiv (v.val : Int) 256)) % 256) + 64) % 256) else (if b = true then ((((IntKind.u16.wrap (Int.tdiv (v.val : Int) 256)) % 256) + 128) % 256) else ((IntKind.u16.wrap (Int.tdiv (v.val : Int) 256)) % 256))) := by decide +kernel
theorem read_ref (c : C) (h : wide c) (r : Int) : whirligigref09_Read.f c.1 c.2.1 c.2.2.1 c.2.2.2.1 c.2.2.2.2.1 c.2.2.2.2.2 r = some (rdC (nm c) r) := by
 unfold whirligigref09_Read.f rdC
 rw [norm_ref c h]
 have hn := nm_ok c
 generalize nm c = e at hn
 obtain ⟨s, m, hh, d, ht, cy⟩ := e
 unfold okC at hn; dsimp only at hn
 obtain ⟨b1, b2, b3, b4⟩ := hn
 simp only [Option.bind_some]
 obtain ⟨v, rfl⟩ : ∃ v : Fin 512, d = (v.val : Int) := ⟨⟨d.toNat, by omega⟩, by show d = (d.toNat : Int); omega⟩
 rw [high_all v ht cy]
 split
 ·rfl
 split
 ·rfl
 split
 ·rfl
 split
 ·have e : Int.tmod (v.val : Int) 256 % 256 = (v.val : Int) % 256 := by rw [Int.tmod_eq_emod_of_nonneg b4.1]; omega
  rw [e]
 split
 ·cases ht <;> cases cy <;> rfl
 ·rfl
end Go.Proofs.Ytmjjojbedllmgaa.Pure
end
section
namespace Go.Proofs.Ytmjjojbedllmgaa.Hand
open Go.RowKit
open Go.Proofs.Ytmjjojbedllmgaa.G
open Go.Proofs.YtmjjojbedllmgaaW.PrintWords Go.Proofs.YtmjjojbedllmgaaW.PrintLast Go.Proofs.YtmjjojbedllmgaaW.PrintMore
theorem given_calls (n : Int) (w : World) : Calls Try.prog 54 #[.iface 26 (.int .i64 n)] w fun e w' => e = .returned (.int .i64 n) ∧ w' = w := by
 have hta : ∀ w : World, (Instr.typeAssert (.iface 26 (.int .i64 n)) 20 26 true).run Try.prog w = .ok (.tuple #[.int .i64 n, .bool true]) w := fun _ => by kernel_rfl
 go_enter Try.func54, Try.ntmps54
 go_wp2
 go_ret
 exact ⟨rfl, rfl⟩
theorem need_no (n : Int) (w : World) : Calls Try.prog 55 #[.bool false, .int .i64 n] w fun e w' => e = .panicked [{ v := .iface 26 (.int .i64 n), recovered := false }] ∧ w' = w := by
 go_enter Try.func55, Try.ntmps55
 go_wp2
 exact ⟨rfl, rfl, rfl⟩
theorem need_ok (n : Int) (w : World) : Calls Try.prog 55 #[.bool true, .int .i64 n] w fun e w' => e = .returned (.tuple #[]) ∧ w' = w := by
 go_enter Try.func55, Try.ntmps55
 go_wp2
 go_end0
 exact ⟨rfl, rfl⟩
theorem parse_panicking (p : Addr) (x n : Int) (older : List PanicEntry) (w : World) (hc : w.cell? p = some (.int .i64 x)) (hz : w.frozen? p = false) :
  CallsD Try.prog 53 #[.pointer (some p)] (.panicking ({ v := .iface 26 (.int .i64 n), recovered := false } :: older)) w fun e u' w' =>
   e = .returned (.tuple #[]) ∧ u' = .panicking ({ v := .iface 26 (.int .i64 n), recovered := true } :: older) ∧ w' = w.setCell p (.int .i64 n) := by
 refine callsD_of_wpS Try.func53 rfl fun c₀ cs hu => ?_
 apply wpS_seq
 apply wpS_region
 simp [wpOpsS, go_sem, recoverD, hu, Try.ntmps53, Exit.thenS]
 apply wpS_seq
 apply wpS_region
 simp [wpOpsS, go_sem, Exit.thenS]
 refine wpS_cond (t := true) (by simp [Act.eval, Array.replicate]) ?_
 simp only [if_true]
 apply wpS_region
 simp [wpOpsS, go_sem, hc, hz, bodyPostS, results, Try.results53]
 refine (given_calls n w).mono ?_
 rintro e w' ⟨rfl, rfl⟩
 simp [go_sem, hc, hz, bodyPostS, results]
theorem parse_idle (p : Addr) (w : World) :
  CallsD Try.prog 53 #[.pointer (some p)] .returning w fun e u' w' => e = .returned (.tuple #[]) ∧ u' = .returning ∧ w' = w := by
 refine callsD_of_wpS Try.func53 rfl fun c₀ cs hu => ?_
 apply wpS_seq
 apply wpS_region
 simp [wpOpsS, go_sem, recoverD, hu, Try.ntmps53, Exit.thenS]
 apply wpS_seq
 apply wpS_region
 simp [wpOpsS, go_sem, Exit.thenS]
 refine wpS_cond (t := false) (by simp [Act.eval, Array.replicate]) ?_
 simp only [Bool.false_eq_true, if_false]
 refine wpS_of_wp (wp_skip ?_)
 cases c₀
 simp_all [bodyPostS, results, Try.results53]
theorem make_panicking (p : Addr) (x n : Int) (older : List PanicEntry) (w : World) (hc : w.cell? p = some (.int .i64 x)) (hz : w.frozen? p = false) :
  CallsD Try.prog 77 #[.pointer (some p)] (.panicking ({ v := .iface 26 (.int .i64 n), recovered := false } :: older)) w fun e u' w' =>
   e = .returned (.tuple #[]) ∧ u' = .panicking ({ v := .iface 26 (.int .i64 n), recovered := true } :: older) ∧ w' = w.setCell p (.int .i64 n) := by
 refine callsD_of_wpS Try.func77 rfl fun c₀ cs hu => ?_
 apply wpS_seq
 apply wpS_region
 simp [wpOpsS, go_sem, recoverD, hu, Try.ntmps77, Exit.thenS]
 apply wpS_seq
 apply wpS_region
 simp [wpOpsS, go_sem, Exit.thenS]
 refine wpS_cond (t := true) (by simp [Act.eval, Array.replicate]) ?_
 simp only [if_true]
 apply wpS_region
 simp [wpOpsS, go_sem, hc, hz, bodyPostS, results, Try.results77]
 refine (given_calls n w).mono ?_
 rintro e w' ⟨rfl, rfl⟩
 simp [go_sem, hc, hz, bodyPostS, results]
theorem make_idle (p : Addr) (w : World) :
  CallsD Try.prog 77 #[.pointer (some p)] .returning w fun e u' w' => e = .returned (.tuple #[]) ∧ u' = .returning ∧ w' = w := by
 refine callsD_of_wpS Try.func77 rfl fun c₀ cs hu => ?_
 apply wpS_seq
 apply wpS_region
 simp [wpOpsS, go_sem, recoverD, hu, Try.ntmps77, Exit.thenS]
 apply wpS_seq
 apply wpS_region
 simp [wpOpsS, go_sem, Exit.thenS]
 refine wpS_cond (t := false) (by simp [Act.eval, Array.replicate]) ?_
 simp only [Bool.false_eq_true, if_false]
 refine wpS_of_wp (wp_skip ?_)
 cases c₀
 simp_all [bodyPostS, results, Try.results77]
end Go.Proofs.Ytmjjojbedllmgaa.Hand
end
section
namespace Go.Proofs.Ytmjjojbedllmgaa.Hand
open Go.RowKit
open Go.Proofs.Ytmjjojbedllmgaa.G
open Go.Proofs.YtmjjojbedllmgaaW.PrintWords Go.Proofs.YtmjjojbedllmgaaW.PrintLast Go.Proofs.YtmjjojbedllmgaaW.PrintMore
def sumTo (l : List Int) : Nat → Int
 | 0 => 0
 | j + 1 => (sumTo l j - (rd l ((308 + j : Nat) : Int) + 1) % 256) % 256
theorem sum_main (A : Option Addr) (c : Nat) (l : List Int) (hl : 333 ≤ l.length) (w : World) (hr : Kd.C (Kd.int .u8) w A l.length l) (hc : l.length ≤ c) :
  Calls Try.prog 58 #[.slice A l.length c] w fun e' w' => e' = .returned (.int .u8 (sumTo l 25)) ∧ w' = w := by
 have hc3 : (333 : Int) ≤ c := by omega
 obtain ⟨ad, rfl, _⟩ := Kd.at_int hr 0 (by omega) (by omega)
 have HR := Aside0.mk hr
 have HL := Aside0.mk hl
 clear hr hl
 go_enter Try.func58, Try.ntmps58
 go_wp2_with fail
 go_loopw [3, 9] (fun x i w' => ∃ (j : Nat), i = .int .i64 j ∧ x = .int .u8 (sumTo l j) ∧ Aside0 (j ≤ 25 ∧ w' = w)) (fun _ i _ => 30 - (intOf i).toNat)
 case atStart => exact ⟨0, rfl, rfl, Aside0.mk ⟨by omega, rfl⟩⟩
 case round =>
  obtain ⟨j, rfl, rfl, HA⟩ := hrel
  obtain ⟨hj, rfl⟩ := HA.out
  clear HA
  by_cases hj2 : j = 25
  ·subst hj2
   go_wp2
   go_ret
   exact ⟨rfl, rfl⟩
  ·have hlt : (j : Int) < 25 := by omega
   obtain ⟨ad', ea, cb⟩ := Kd.at_int HR.out ((308 + j : Nat) : Int) (by omega) (by have := HL.out; omega)
   obtain rfl := Option.some.inj ea
   clear ea
   rw [Int.toNat_natCast] at cb
   have cb' : wr.cell? ⟨ad.block, ad.off + 308 + j, none⟩ = some (.int .u8 (rd l ((308 + j : Nat) : Int))) := by have := cb; simp only [Addr.add] at this; rw [Nat.add_assoc]; simpa using this
   go_wp2
   exact ⟨⟨j + 1, by simp, by simp [sumTo], Aside0.mk ⟨by omega, trivial⟩⟩, by simp [intOf]; omega⟩
def header_sum.f (l0 : List Int) : Option Int := if 333 ≤ l0.length then some (sumTo l0 25) else none
theorem header_sum.calls (A0 : Option Addr) (c0 : Nat) (l0 : List Int) (r : Int) (w : World) (hr0 : Kd.C (Kd.int .u8) w A0 l0.length l0) (hc0 : l0.length ≤ c0) (h : header_sum.f l0 = some r) :
  Calls Try.prog 58 #[.slice A0 l0.length c0] w fun e w' => e = .returned (.int .u8 r) ∧ w' = w := by
 unfold header_sum.f at h
 split at h
 ·rename_i hl
  cases h
  exact sum_main A0 c0 l0 hl w hr0 hc0
 ·cases h
end Go.Proofs.Ytmjjojbedllmgaa.Hand
end
section
namespace Go.Proofs.Ytmjjojbedllmgaa.Hand
open Go.RowKit
open Go.Proofs.Ytmjjojbedllmgaa.G
open Go.Proofs.YtmjjojbedllmgaaW.PrintWords Go.Proofs.YtmjjojbedllmgaaW.PrintLast Go.Proofs.YtmjjojbedllmgaaW.PrintMore
def wareT (k : Int) : Int × Bool × Bool × Bool × Bool :=
 if k = 0 then (0, false, false, false, true) else
 if k = 1 then (1, false, false, false, true) else
 if k = 2 then (1, true, false, false, true) else
 if k = 3 then (1, true, true, false, true) else
 if k = 8 then (0, true, false, false, true) else
 if k = 9 then (0, true, true, false, true) else
 if k = 15 then (3, false, true, true, true) else
 if k = 16 then (3, true, true, true, true) else
 if k = 17 then (3, false, false, false, true) else
 if k = 18 then (3, true, false, false, true) else
 if k = 19 then (3, true, true, false, true) else
 if k = 25 then (5, false, false, false, true) else
 if k = 26 then (5, true, false, false, true) else
 if k = 27 then (5, true, true, false, true) else
 if k = 28 then (5, false, false, false, true) else
 if k = 29 then (5, true, false, false, true) else
 if k = 30 then (5, true, true, false, true) else
 (0, false, false, false, false)
theorem ware_0 (w : World) : Calls Try.prog 56 #[.int .u8 0] w fun e' w' => e' = .returned (.tuple #[.agg #[.string ⟨#[]⟩, .int .u8 0, .int .i64 0, .bool false, .bool false, .bool false, .int .i64 0, .int .i64 0, .int .u8 0, .int .u16 0], .bool true]) ∧ Below w.heap.size w w' := by
 go_enter Try.func56, Try.ntmps56
 go_wp2
 refine bodyPost_ret (v := .tuple #[.agg #[.string ⟨#[]⟩, .int .u8 0, .int .i64 0, .bool false, .bool false, .bool false, .int .i64 0, .int .i64 0, .int .u8 0, .int .u16 0], .bool true]) (by simp [results, Try.results56, go_sem]) rfl ⟨rfl, by go_grown⟩
theorem ware_1 (w : World) : Calls Try.prog 56 #[.int .u8 1] w fun e' w' => e' = .returned (.tuple #[.agg #[.string ⟨#[]⟩, .int .u8 1, .int .i64 1, .bool false, .bool false, .bool false, .int .i64 0, .int .i64 0, .int .u8 0, .int .u16 0], .bool true]) ∧ Below w.heap.size w w' := by
 go_enter Try.func56, Try.ntmps56
 go_wp2
 refine bodyPost_ret (v := .tuple #[.agg #[.string ⟨#[]⟩, .int .u8 1, .int .i64 1, .bool false, .bool false, .bool false, .int .i64 0, .int .i64 0, .int .u8 0, .int .u16 0], .bool true]) (by simp [results, Try.results56, go_sem]) rfl ⟨rfl, by go_grown⟩
theorem ware_2 (w : World) : Calls Try.prog 56 #[.int .u8 2] w fun e' w' => e' = .returned (.tuple #[.agg #[.string ⟨#[]⟩, .int .u8 2, .int .i64 1, .bool true, .bool false, .bool false, .int .i64 0, .int .i64 0, .int .u8 0, .int .u16 0], .bool true]) ∧ Below w.heap.size w w' := by
 go_enter Try.func56, Try.ntmps56
 go_wp2
 refine bodyPost_ret (v := .tuple #[.agg #[.string ⟨#[]⟩, .int .u8 2, .int .i64 1, .bool true, .bool false, .bool false, .int .i64 0, .int .i64 0, .int .u8 0, .int .u16 0], .bool true]) (by simp [results, Try.results56, go_sem]) rfl ⟨rfl, by go_grown⟩
theorem ware_3 (w : World) : Calls Try.prog 56 #[.int .u8 3] w fun e' w' => e' = .returned (.tuple #[.agg #[.string ⟨#[]⟩, .int .u8 3, .int .i64 1, .bool true, .bool true, .bool false, .int .i64 0, .int .i64 0, .int .u8 0, .int .u16 0], .bool true]) ∧ Below w.heap.size w w' := by
 go_enter Try.func56, Try.ntmps56
 go_wp2
 refine bodyPost_ret (v := .tuple #[.agg #[.string ⟨#[]⟩, .int .u8 3, .int .i64 1, .bool true, .bool true, .bool false, .int .i64 0, .int .i64 0, .int .u8 0, .int .u16 0], .bool true]) (by simp [results, Try.results56, go_sem]) rfl ⟨rfl, by go_grown⟩
theorem ware_8 (w : World) : Calls Try.prog 56 #[.int .u8 8] w fun e' w' => e' = .returned (.tuple #[.agg #[.string ⟨#[]⟩, .int .u8 8, .int .i64 0, .bool true, .bool false, .bool false, .int .i64 0, .int .i64 0, .int .u8 0, .int .u16 0], .bool true]) ∧ Below w.heap.size w w' := by
 go_enter Try.func56, Try.ntmps56
 go_wp2
 refine bodyPost_ret (v := .tuple #[.agg #[.string ⟨#[]⟩, .int .u8 8, .int .i64 0, .bool true, .bool false, .bool false, .int .i64 0, .int .i64 0, .int .u8 0, .int .u16 0], .bool true]) (by simp [results, Try.results56, go_sem]) rfl ⟨rfl, by go_grown⟩
theorem ware_9 (w : World) : Calls Try.prog 56 #[.int .u8 9] w fun e' w' => e' = .returned (.tuple #[.agg #[.string ⟨#[]⟩, .int .u8 9, .int .i64 0, .bool true, .bool true, .bool false, .int .i64 0, .int .i64 0, .int .u8 0, .int .u16 0], .bool true]) ∧ Below w.heap.size w w' := by
 go_enter Try.func56, Try.ntmps56
 go_wp2
 refine bodyPost_ret (v := .tuple #[.agg #[.string ⟨#[]⟩, .int .u8 9, .int .i64 0, .bool true, .bool true, .bool false, .int .i64 0, .int .i64 0, .int .u8 0, .int .u16 0], .bool true]) (by simp [results, Try.results56, go_sem]) rfl ⟨rfl, by go_grown⟩
theorem ware_15 (w : World) : Calls Try.prog 56 #[.int .u8 15] w fun e' w' => e' = .returned (.tuple #[.agg #[.string ⟨#[]⟩, .int .u8 15, .int .i64 3, .bool false, .bool true, .bool true, .int .i64 0, .int .i64 0, .int .u8 0, .int .u16 0], .bool true]) ∧ Below w.heap.size w w' := by
 go_enter Try.func56, Try.ntmps56
 go_wp2
 refine bodyPost_ret (v := .tuple #[.agg #[.string ⟨#[]⟩, .int .u8 15, .int .i64 3, .bool false, .bool true, .bool true, .int .i64 0, .int .i64 0, .int .u8 0, .int .u16 0], .bool true]) (by simp [results, Try.results56, go_sem]) rfl ⟨rfl, by go_grown⟩
theorem ware_16 (w : World) : Calls Try.prog 56 #[.int .u8 16] w fun e' w' => e' = .returned (.tuple #[.agg #[.string ⟨#[]⟩, .int .u8 16, .int .i64 3, .bool true, .bool true, .bool true, .int .i64 0, .int .i64 0, .int .u8 0, .int .u16 0], .bool true]) ∧ Below w.heap.size w w' := by
 go_enter Try.func56, Try.ntmps56
 go_wp2
 refine bodyPost_ret (v := .tuple #[.agg #[.string ⟨#[]⟩, .int .u8 16, .int .i64 3, .bool true, .bool true, .bool true, .int .i64 0, .int .i64 0, .int .u8 0, .int .u16 0], .bool true]) (by simp [results, Try.results56, go_sem]) rfl ⟨rfl, by go_grown⟩
theorem ware_17 (w : World) : Calls Try.prog 56 #[.int .u8 17] w fun e' w' => e' = .returned (.tuple #[.agg #[.string ⟨#[]⟩, .int .u8 17, .int .i64 3, .bool false, .bool false, .bool false, .int .i64 0, .int .i64 0, .int .u8 0, .int .u16 0], .bool true]) ∧ Below w.heap.size w w' := by
 go_enter Try.func56, Try.ntmps56
 go_wp2
 refine bodyPost_ret (v := .tuple #[.agg #[.string ⟨#[]⟩, .int .u8 17, .int .i64 3, .bool false, .bool false, .bool false, .int .i64 0, .int .i64 0, .int .u8 0, .int .u16 0], .bool true]) (by simp [results, Try.results56, go_sem]) rfl ⟨rfl, by go_grown⟩
theorem ware_18 (w : World) : Calls Try.prog 56 #[.int .u8 18] w fun e' w' => e' = .returned (.tuple #[.agg #[.string ⟨#[]⟩, .int .u8 18, .int .i64 3, .bool true, .bool false, .bool false, .int .i64 0, .int .i64 0, .int .u8 0, .int .u16 0], .bool true]) ∧ Below w.heap.size w w' := by
 go_enter Try.func56, Try.ntmps56
 go_wp2
 refine bodyPost_ret (v := .tuple #[.agg #[.string ⟨#[]⟩, .int .u8 18, .int .i64 3, .bool true, .bool false, .bool false, .int .i64 0, .int .i64 0, .int .u8 0, .int .u16 0], .bool true]) (by simp [results, Try.results56, go_sem]) rfl ⟨rfl, by go_grown⟩
theorem ware_19 (w : World) : Calls Try.prog 56 #[.int .u8 19] w fun e' w' => e' = .returned (.tuple #[.agg #[.string ⟨#[]⟩, .int .u8 19, .int .i64 3, .bool true, .bool true, .bool false, .int .i64 0, .int .i64 0, .int .u8 0, .int .u16 0], .bool true]) ∧ Below w.heap.size w w' := by
 go_enter Try.func56, Try.ntmps56
 go_wp2
 refine bodyPost_ret (v := .tuple #[.agg #[.string ⟨#[]⟩, .int .u8 19, .int .i64 3, .bool true, .bool true, .bool false, .int .i64 0, .int .i64 0, .int .u8 0, .int .u16 0], .bool true]) (by simp [results, Try.results56, go_sem]) rfl ⟨rfl, by go_grown⟩
theorem ware_25 (w : World) : Calls Try.prog 56 #[.int .u8 25] w fun e' w' => e' = .returned (.tuple #[.agg #[.string ⟨#[]⟩, .int .u8 25, .int .i64 5, .bool false, .bool false, .bool false, .int .i64 0, .int .i64 0, .int .u8 0, .int .u16 0], .bool true]) ∧ Below w.heap.size w w' := by
 go_enter Try.func56, Try.ntmps56
 go_wp2
 refine bodyPost_ret (v := .tuple #[.agg #[.string ⟨#[]⟩, .int .u8 25, .int .i64 5, .bool false, .bool false, .bool false, .int .i64 0, .int .i64 0, .int .u8 0, .int .u16 0], .bool true]) (by simp [results, Try.results56, go_sem]) rfl ⟨rfl, by go_grown⟩
theorem ware_26 (w : World) : Calls Try.prog 56 #[.int .u8 26] w fun e' w' => e' = .returned (.tuple #[.agg #[.string ⟨#[]⟩, .int .u8 26, .int .i64 5, .bool true, .bool false, .bool false, .int .i64 0, .int .i64 0, .int .u8 0, .int .u16 0], .bool true]) ∧ Below w.heap.size w w' := by
 go_enter Try.func56, Try.ntmps56
 go_wp2
 refine bodyPost_ret (v := .tuple #[.agg #[.string ⟨#[]⟩, .int .u8 26, .int .i64 5, .bool true, .bool false, .bool false, .int .i64 0, .int .i64 0, .int .u8 0, .int .u16 0], .bool true]) (by simp [results, Try.results56, go_sem]) rfl ⟨rfl, by go_grown⟩
theorem ware_27 (w : World) : Calls Try.prog 56 #[.int .u8 27] w fun e' w' => e' = .returned (.tuple #[.agg #[.string ⟨#[]⟩, .int .u8 27, .int .i64 5, .bool true, .bool true, .bool false, .int .i64 0, .int .i64 0, .int .u8 0, .int .u16 0], .bool true]) ∧ Below w.heap.size w w' := by
 go_enter Try.func56, Try.ntmps56
 go_wp2
 refine bodyPost_ret (v := .tuple #[.agg #[.string ⟨#[]⟩, .int .u8 27, .int .i64 5, .bool true, .bool true, .bool false, .int .i64 0, .int .i64 0, .int .u8 0, .int .u16 0], .bool true]) (by simp [results, Try.results56, go_sem]) rfl ⟨rfl, by go_grown⟩
theorem ware_28 (w : World) : Calls Try.prog 56 #[.int .u8 28] w fun e' w' => e' = .returned (.tuple #[.agg #[.string ⟨#[]⟩, .int .u8 28, .int .i64 5, .bool false, .bool false, .bool false, .int .i64 0, .int .i64 0, .int .u8 0, .int .u16 0], .bool true]) ∧ Below w.heap.size w w' := by
 go_enter Try.func56, Try.ntmps56
 go_wp2
 refine bodyPost_ret (v := .tuple #[.agg #[.string ⟨#[]⟩, .int .u8 28, .int .i64 5, .bool false, .bool false, .bool false, .int .i64 0, .int .i64 0, .int .u8 0, .int .u16 0], .bool true]) (by simp [results, Try.results56, go_sem]) rfl ⟨rfl, by go_grown⟩
theorem ware_29 (w : World) : Calls Try.prog 56 #[.int .u8 29] w fun e' w' => e' = .returned (.tuple #[.agg #[.string ⟨#[]⟩, .int .u8 29, .int .i64 5, .bool true, .bool false, .bool false, .int .i64 0, .int .i64 0, .int .u8 0, .int .u16 0], .bool true]) ∧ Below w.heap.size w w' := by
 go_enter Try.func56, Try.ntmps56
 go_wp2
 refine bodyPost_ret (v := .tuple #[.agg #[.string ⟨#[]⟩, .int .u8 29, .int .i64 5, .bool true, .bool false, .bool false, .int .i64 0, .int .i64 0, .int .u8 0, .int .u16 0], .bool true]) (by simp [results, Try.results56, go_sem]) rfl ⟨rfl, by go_grown⟩
theorem ware_30 (w : World) : Calls Try.prog 56 #[.int .u8 30] w fun e' w' => e' = .returned (.tuple #[.agg #[.string ⟨#[]⟩, .int .u8 30, .int .i64 5, .bool true, .bool true, .bool false, .int .i64 0, .int .i64 0, .int .u8 0, .int .u16 0], .bool true]) ∧ Below w.heap.size w w' := by
 go_enter Try.func56, Try.ntmps56
 go_wp2
 refine bodyPost_ret (v := .tuple #[.agg #[.string ⟨#[]⟩, .int .u8 30, .int .i64 5, .bool true, .bool true, .bool false, .int .i64 0, .int .i64 0, .int .u8 0, .int .u16 0], .bool true]) (by simp [results, Try.results56, go_sem]) rfl ⟨rfl, by go_grown⟩
theorem ware_no_a (k : Int) (h0 : (k == 0) = false) (h8 : (k == 8) = false) (h9 : (k == 9) = false) (g0 : decide (k ≥ 1) = true) (g1 : decide (k ≤ 3) = false) (g2 : decide (k ≥ 15) = false) (g4 : decide (k ≥ 25) = false) (w : World) : Calls Try.prog 56 #[.int .u8 k] w fun e' w' => e' = .returned (.tuple #[.agg #[.string ⟨#[]⟩, .int .u8 0, .int .i64 0, .bool false, .bool false, .bool false, .int .i64 0, .int .i64 0, .int .u8 0, .int .u16 0], .bool false]) ∧ Below w.heap.size w w' := by
 go_enter Try.func56, Try.ntmps56
 go_wp2
 refine bodyPost_ret (v := .tuple #[.agg #[.string ⟨#[]⟩, .int .u8 0, .int .i64 0, .bool false, .bool false, .bool false, .int .i64 0, .int .i64 0, .int .u8 0, .int .u16 0], .bool false]) (by simp [results, Try.results56, go_sem]) rfl ⟨rfl, by go_grown⟩
theorem ware_no_b (k : Int) (h0 : (k == 0) = false) (h8 : (k == 8) = false) (h9 : (k == 9) = false) (g0 : decide (k ≥ 1) = true) (g1 : decide (k ≤ 3) = false) (g2 : decide (k ≥ 15) = true) (g3 : decide (k ≤ 19) = false) (g4 : decide (k ≥ 25) = false) (w : World) : Calls Try.prog 56 #[.int .u8 k] w fun e' w' => e' = .returned (.tuple #[.agg #[.string ⟨#[]⟩, .int .u8 0, .int .i64 0, .bool false, .bool false, .bool false, .int .i64 0, .int .i64 0, .int .u8 0, .int .u16 0], .bool false]) ∧ Below w.heap.size w w' := by
 go_enter Try.func56, Try.ntmps56
 go_wp2
 refine bodyPost_ret (v := .tuple #[.agg #[.string ⟨#[]⟩, .int .u8 0, .int .i64 0, .bool false, .bool false, .bool false, .int .i64 0, .int .i64 0, .int .u8 0, .int .u16 0], .bool false]) (by simp [results, Try.results56, go_sem]) rfl ⟨rfl, by go_grown⟩
theorem ware_no_c (k : Int) (h0 : (k == 0) = false) (h8 : (k == 8) = false) (h9 : (k == 9) = false) (g0 : decide (k ≥ 1) = true) (g1 : decide (k ≤ 3) = false) (g2 : decide (k ≥ 15) = true) (g3 : decide (k ≤ 19) = false) (g4 : decide (k ≥ 25) = true) (g5 : decide (k ≤ 30) = false) (w : World) : Calls Try.prog 56 #[.int .u8 k] w fun e' w' => e' = .returned (.tuple #[.agg #[.string ⟨#[]⟩, .int .u8 0, .int .i64 0, .bool false, .bool false, .bool false, .int .i64 0, .int .i64 0, .int .u8 0, .int .u16 0], .bool false]) ∧ Below w.heap.size w w' := by
 go_enter Try.func56, Try.ntmps56
 go_wp2
 refine bodyPost_ret (v := .tuple #[.agg #[.string ⟨#[]⟩, .int .u8 0, .int .i64 0, .bool false, .bool false, .bool false, .int .i64 0, .int .i64 0, .int .u8 0, .int .u16 0], .bool false]) (by simp [results, Try.results56, go_sem]) rfl ⟨rfl, by go_grown⟩
theorem header_ware.calls (k : Int) (hk : 0 ≤ k ∧ k ≤ 255) (w : World) : Calls Try.prog 56 #[.int .u8 k] w fun e' w' => e' = .returned (.tuple #[.agg #[.string ⟨#[]⟩, .int .u8 (if (wareT k).2.2.2.2 = true then k else 0), .int .i64 (wareT k).1, .bool (wareT k).2.1, .bool (wareT k).2.2.1, .bool (wareT k).2.2.2.1, .int .i64 0, .int .i64 0, .int .u8 0, .int .u16 0], .bool (wareT k).2.2.2.2]) ∧ Below w.heap.size w w' := by
 by_cases c0 : k = 0
 ·subst c0; exact ware_0 w
 by_cases c1 : k = 1
 ·subst c1; exact ware_1 w
 by_cases c2 : k = 2
 ·subst c2; exact ware_2 w
 by_cases c3 : k = 3
 ·subst c3; exact ware_3 w
 by_cases c8 : k = 8
 ·subst c8; exact ware_8 w
 by_cases c9 : k = 9
 ·subst c9; exact ware_9 w
 by_cases c15 : k = 15
 ·subst c15; exact ware_15 w
 by_cases c16 : k = 16
 ·subst c16; exact ware_16 w
 by_cases c17 : k = 17
 ·subst c17; exact ware_17 w
 by_cases c18 : k = 18
 ·subst c18; exact ware_18 w
 by_cases c19 : k = 19
 ·subst c19; exact ware_19 w
 by_cases c25 : k = 25
 ·subst c25; exact ware_25 w
 by_cases c26 : k = 26
 ·subst c26; exact ware_26 w
 by_cases c27 : k = 27
 ·subst c27; exact ware_27 w
 by_cases c28 : k = 28
 ·subst c28; exact ware_28 w
 by_cases c29 : k = 29
 ·subst c29; exact ware_29 w
 by_cases c30 : k = 30
 ·subst c30; exact ware_30 w
 have e : wareT k = (0, false, false, false, false) := by unfold wareT; rw [if_neg c0, if_neg c1, if_neg c2, if_neg c3, if_neg c8, if_neg c9, if_neg c15, if_neg c16, if_neg c17, if_neg c18, if_neg c19, if_neg c25, if_neg c26, if_neg c27, if_neg c28, if_neg c29, if_neg c30]
 rw [e]
 have h0 : (k == 0) = false := beq_eq_false_iff_ne.mpr c0
 have h8 : (k == 8) = false := beq_eq_false_iff_ne.mpr c8
 have h9 : (k == 9) = false := beq_eq_false_iff_ne.mpr c9
 have g0 : decide (k ≥ 1) = true := decide_eq_true (by omega)
 have g1 : decide (k ≤ 3) = false := decide_eq_false (by omega)
 by_cases d15 : k ≥ 15
 ·by_cases d25 : k ≥ 25
  ·exact ware_no_c k h0 h8 h9 g0 g1 (decide_eq_true d15) (decide_eq_false (by omega)) (decide_eq_true d25) (decide_eq_false (by omega)) w
  ·exact ware_no_b k h0 h8 h9 g0 g1 (decide_eq_true d15) (decide_eq_false (by omega)) (decide_eq_false d25) w
 ·exact ware_no_a k h0 h8 h9 g0 g1 (decide_eq_false d15) (decide_eq_false (by omega)) w
end Go.Proofs.Ytmjjojbedllmgaa.Hand
end
section
namespace Go.Proofs.Ytmjjojbedllmgaa.G
open Go.RowKit Go.Proofs.YtmjjojbedllmgaaW.PrintWords Go.Proofs.YtmjjojbedllmgaaW.PrintLast Go.Proofs.YtmjjojbedllmgaaW.PrintMore
def header_most.f (a0 : Int) : Option (Int) := if 0 ≤ a0 then (some (shl .i64 32768 a0)) else (none)
theorem header_most.calls (a0 : Int) (r : Int) (w : World) (h : header_most.f a0 = some r) :
  Calls Try.prog 57 #[.int .u8 a0] w fun e w' => e = .returned (.int .i64 r) ∧ Drawn0 w w' := by
 have H : (if 0 ≤ a0 then (some (shl .i64 32768 a0)) else (none)) = some r := h
 clear h
 by_cases c2 : 0 ≤ a0
 ·rw [if_pos c2] at H
  have c2b0 := eq_true c2
  have c2b1 : decide (0 ≤ a0) = true := decide_eq_true c2
  clear c2
  obtain ⟨ji3, hji3⟩ : ∃ j_ : Int, (shl .i64 32768 a0) = j_ := ⟨_, rfl⟩
  replace H : (some ji3) = some r := by first | (rw [hji3] at H; exact H) | (simp only [hji3] at H ⊢; exact H)
  have hji3_ : (IntKind.i64.wrap (32768 * 2 ^ min a0.toNat 64)) = ji3 := hji3
  have hji3z : a0 ≤ 64 → (IntKind.i64.wrap (32768 * 2 ^ a0.toNat)) = ji3 := shl_small hji3
  have hji3y : (wrap64 (32768 * 2 ^ min a0.toNat 64)) = ji3 := (i64_w _).symm.trans hji3_
  have hji3x : a0 ≤ 64 → (wrap64 (32768 * 2 ^ a0.toNat)) = ji3 := fun h_ => (i64_w _).symm.trans (hji3z h_)
  obtain rfl := Option.some.inj H
  go_enter Try.func57, Try.ntmps57
  go_wp2
  go_ret
  exact ⟨by first | rfl | (simp; done) | (simp only [← hji3] <;> (first | rfl | simp)) | (simp [*]; done), by repeat (first | exact Drawn0.refl _ | apply Drawn0.step)⟩
 ·rw [if_neg c2] at H
  exact absurd H (by simp)
end Go.Proofs.Ytmjjojbedllmgaa.G
end
section
namespace Go.Proofs.Ytmjjojbedllmgaa.G
open Go.RowKit Go.Proofs.YtmjjojbedllmgaaW.PrintWords Go.Proofs.YtmjjojbedllmgaaW.PrintLast Go.Proofs.YtmjjojbedllmgaaW.PrintMore
def header_printable.f (a0 : Int) : Option (Bool) := if a0 ≥ 32 then (some (decide (a0 ≤ 126))) else (some false)
theorem header_printable.calls (a0 : Int) (r : Bool) (w : World) (h : header_printable.f a0 = some r) :
  Calls Try.prog 59 #[.int .u8 a0] w fun e w' => e = .returned (.bool r) ∧ Drawn0 w w' := by
 have H : (if a0 ≥ 32 then (some (decide (a0 ≤ 126))) else (some false)) = some r := h
 clear h
 by_cases c2 : a0 ≥ 32
 ·rw [if_pos c2] at H
  have c2b0 : decide (32 ≤ a0) = true := decide_eq_true c2
  clear c2
  obtain rfl := Option.some.inj H
  go_enter Try.func59, Try.ntmps59
  go_wp2
  go_ret
  exact ⟨by first | rfl | (simp; done) | (simp [*]; done), by repeat (first | exact Drawn0.refl _ | apply Drawn0.step)⟩
 ·rw [if_neg c2] at H
  have c2b0 : decide (32 ≤ a0) = false := decide_eq_false c2
  clear c2
  obtain rfl := Option.some.inj H
  go_enter Try.func59, Try.ntmps59
  go_wp2
  go_ret
  exact ⟨by first | rfl | (simp; done) | (simp [*]; done), by repeat (first | exact Drawn0.refl _ | apply Drawn0.step)⟩
end Go.Proofs.Ytmjjojbedllmgaa.G
end
