/- Written by a program of this session, after the kit's print: Go functions as Lean functions, each with the proof that the Go text comes to it. -/
import Derived.Test.YtdfpaebbejdjlaaG0
import Derived.Test.YtdfpaebbejdjlaaG9
namespace Go.Proofs.Ytdfpaebbejdjlaa.G
open Go.RowKit Go.Proofs.YtdfpaebbejdjlaaW.PrintWords Go.Proofs.YtdfpaebbejdjlaaW.PrintLast Go.Proofs.YtdfpaebbejdjlaaW.PrintMore
attribute [local go_sem] max2_int min2_int max_two min_two max_three min_three max_four min_four   -- for this text's walks alone
set_option linter.unusedVariables false
set_option linter.unusedSimpArgs false

/-! ### whirligigref02_Of: function 24 -/
def whirligigref02_Of.f (k : Nat) (a0 : Int) : Option (Bool × Bool × Bool × Bool) := (whirligigref01_Bit.f k a0 7).bind fun t297 => ((whirligigref01_Bit.f k a0 6).bind fun t298 => ((whirligigref01_Bit.f k a0 5).bind fun t299 => ((whirligigref01_Bit.f k a0 4).bind fun t300 => (some (t297, t298, t299, t300)))))
theorem whirligigref02_Of.mono : ∀ a0 k, LeO (whirligigref02_Of.f k a0) (whirligigref02_Of.f (k + 1) a0) := by
  intro a0 k
  unfold whirligigref02_Of.f
  repeat' first
      | (with_reducible exact whirligigref01_Bit.mono _ _ _)
      | (with_reducible exact LeO.refl _)
      | (with_reducible exact LeO.none _)
      | (with_reducible refine LeO.ite ?_ ?_)
      | (with_reducible refine LeO.bind ?_ (fun _ => ?_))
      | exact whirligigref01_Bit.mono _ _ _
      | exact LeO.none _
      | refine LeO.ite ?_ ?_
      | refine LeO.bind ?_ (fun _ => ?_)
set_option maxHeartbeats 8000000 in
set_option maxRecDepth 100000 in
theorem whirligigref02_Of.calls (k : Nat) (a0 : Int) (r1 : Bool) (r2 : Bool) (r3 : Bool) (r4 : Bool) (w : World) (h : whirligigref02_Of.f k a0 = some (r1, r2, r3, r4)) :
    Calls Try.prog 24 #[.int .u8 a0] w fun e w' => e = .returned (.agg #[.bool r1, .bool r2, .bool r3, .bool r4]) ∧ Below w.heap.size w w' := by
  have hu23 := Try.underlying23
  have HB := Aside0.mk (Below.refl w.heap.size w)
  have H : ((whirligigref01_Bit.f k a0 7).bind fun t297 => ((whirligigref01_Bit.f k a0 6).bind fun t298 => ((whirligigref01_Bit.f k a0 5).bind fun t299 => ((whirligigref01_Bit.f k a0 4).bind fun t300 => (some (t297, t298, t299, t300)))))) = some (r1, r2, r3, r4) := h
  clear h
  replace H := Option.bind_eq_some_iff.mp H
  obtain ⟨t297, A20, H⟩ := H
  replace H : ((whirligigref01_Bit.f k a0 6).bind fun t298 => ((whirligigref01_Bit.f k a0 5).bind fun t299 => ((whirligigref01_Bit.f k a0 4).bind fun t300 => (some (t297, t298, t299, t300))))) = some (r1, r2, r3, r4) := H
  have A2 := Aside0.mk A20
  clear A20
  replace H := Option.bind_eq_some_iff.mp H
  obtain ⟨t298, A30, H⟩ := H
  replace H : ((whirligigref01_Bit.f k a0 5).bind fun t299 => ((whirligigref01_Bit.f k a0 4).bind fun t300 => (some (t297, t298, t299, t300)))) = some (r1, r2, r3, r4) := H
  have A3 := Aside0.mk A30
  clear A30
  replace H := Option.bind_eq_some_iff.mp H
  obtain ⟨t299, A40, H⟩ := H
  replace H : ((whirligigref01_Bit.f k a0 4).bind fun t300 => (some (t297, t298, t299, t300))) = some (r1, r2, r3, r4) := H
  have A4 := Aside0.mk A40
  clear A40
  replace H := Option.bind_eq_some_iff.mp H
  obtain ⟨t300, A50, H⟩ := H
  replace H : (some (t297, t298, t299, t300)) = some (r1, r2, r3, r4) := H
  have A5 := Aside0.mk A50
  clear A50
  simp only [Option.some.injEq, Prod.mk.injEq] at H
  obtain ⟨rfl, rfl, rfl, rfl⟩ := H
  go_enter Try.func24, Try.ntmps24
  go_wp2_with (first | ((with_reducible refine gate_dst (N := 2) rfl ?_); refine box_event ?hg (N := 2) ?hd (cs := #[.bool false, .bool false, .bool false, .bool false]) (t := 23) ?hr ?_; (case hd => rfl); (case hg => rfl); (case hr => first | (go_simp; done) | (go_simp; rfl)); intro gb296 hg w6 hbox hb; have n0_ := Aside0.mk (below_step (by repeat (first | (with_reducible first | exact HB.out | apply below_alloc | apply pw_below_drewN | apply below_drew1) | exact HB.out)) hb); have n1_ := Aside0.mk (hbox); have n2_ := Aside0.mk ((by rw [hg]; exact (below_size (by repeat (first | (with_reducible first | exact HB.out | apply below_alloc | apply pw_below_drewN | apply below_drew1) | exact HB.out))) : w.heap.size ≤ gb296)); have n3_ := Aside0.mk ((by rw [hg]; exact (below_size (by repeat (first | (with_reducible first | exact HB.out | apply below_alloc | apply pw_below_drewN | apply below_drew1) | exact HB.out))) : w.heap.size ≤ gb296)); clear HB; have HB := n0_; have BK296 := n1_; have GW296 := n2_; have GE296 := n3_; clear n0_ n1_ n2_ n3_; clear hb hbox hg) | ((with_reducible refine gate_callee (f := 41) rfl ?_); refine goesL_ (some 4) rfl rfl Try.func41 (by kernel_rfl) rfl #[.int .u8 a0, .int .i64 7] rfl (by (try simp only [List.map_toArray, List.map_cons, List.map_nil]); first | done | rfl | (simp only [List.length_drop, List.length_take]; rfl)) ?_; (with_reducible refine (whirligigref01_Bit.calls k a0 7 t297 _ A2.out).mono ?_); rintro e w' ⟨rfl, ⟨nd, rfl⟩⟩; refine ⟨_, rfl, ?_⟩; (try (rw [drewN_self w6]; generalize hq_ : World.drewN w6 _ = w6; have n0_ : Aside0 (w6.heap[gb296]? = some (.cells #[.bool false, .bool false, .bool false, .bool false] 23 (0, 0))) := ⟨by rw [← hq_]; exact (by (with_reducible repeat (first | refine blk_drewN ?_ _ | refine blk_drew ?_ | refine blk_alloc ?_ _)); exact BK296.out)⟩; have n1_ : Aside0 (Below w.heap.size w w6) := ⟨by rw [← hq_]; exact (by repeat (first | (with_reducible first | exact HB.out | apply below_alloc | apply pw_below_drewN | apply below_drew1 | refine below_set ?_ GE296.out) | exact HB.out))⟩; clear BK296 HB hq_; have BK296 := n0_; have HB := n1_; clear n0_ n1_))) | ((with_reducible refine gate_callee (f := 41) rfl ?_); refine goesL_ (some 6) rfl rfl Try.func41 (by kernel_rfl) rfl #[.int .u8 a0, .int .i64 6] rfl (by (try simp only [List.map_toArray, List.map_cons, List.map_nil]); first | done | rfl | (simp only [List.length_drop, List.length_take]; rfl)) ?_; (with_reducible refine (whirligigref01_Bit.calls k a0 6 t298 _ A3.out).mono ?_); rintro e w' ⟨rfl, ⟨nd, rfl⟩⟩; refine ⟨_, rfl, ?_⟩; (try (rw [drewN_self w6]; generalize hq_ : World.drewN w6 _ = w6; have n0_ : Aside0 (w6.heap[gb296]? = some (.cells #[.bool false, .bool false, .bool false, .bool false] 23 (0, 0))) := ⟨by rw [← hq_]; exact (by (with_reducible repeat (first | refine blk_drewN ?_ _ | refine blk_drew ?_ | refine blk_alloc ?_ _)); exact BK296.out)⟩; have n1_ : Aside0 (Below w.heap.size w w6) := ⟨by rw [← hq_]; exact (by repeat (first | (with_reducible first | exact HB.out | apply below_alloc | apply pw_below_drewN | apply below_drew1 | refine below_set ?_ GE296.out) | exact HB.out))⟩; clear BK296 HB hq_; have BK296 := n0_; have HB := n1_; clear n0_ n1_))) | ((with_reducible refine gate_callee (f := 41) rfl ?_); refine goesL_ (some 8) rfl rfl Try.func41 (by kernel_rfl) rfl #[.int .u8 a0, .int .i64 5] rfl (by (try simp only [List.map_toArray, List.map_cons, List.map_nil]); first | done | rfl | (simp only [List.length_drop, List.length_take]; rfl)) ?_; (with_reducible refine (whirligigref01_Bit.calls k a0 5 t299 _ A4.out).mono ?_); rintro e w' ⟨rfl, ⟨nd, rfl⟩⟩; refine ⟨_, rfl, ?_⟩; (try (rw [drewN_self w6]; generalize hq_ : World.drewN w6 _ = w6; have n0_ : Aside0 (w6.heap[gb296]? = some (.cells #[.bool false, .bool false, .bool false, .bool false] 23 (0, 0))) := ⟨by rw [← hq_]; exact (by (with_reducible repeat (first | refine blk_drewN ?_ _ | refine blk_drew ?_ | refine blk_alloc ?_ _)); exact BK296.out)⟩; have n1_ : Aside0 (Below w.heap.size w w6) := ⟨by rw [← hq_]; exact (by repeat (first | (with_reducible first | exact HB.out | apply below_alloc | apply pw_below_drewN | apply below_drew1 | refine below_set ?_ GE296.out) | exact HB.out))⟩; clear BK296 HB hq_; have BK296 := n0_; have HB := n1_; clear n0_ n1_))) | ((with_reducible refine gate_callee (f := 41) rfl ?_); refine goesL_ (some 10) rfl rfl Try.func41 (by kernel_rfl) rfl #[.int .u8 a0, .int .i64 4] rfl (by (try simp only [List.map_toArray, List.map_cons, List.map_nil]); first | done | rfl | (simp only [List.length_drop, List.length_take]; rfl)) ?_; (with_reducible refine (whirligigref01_Bit.calls k a0 4 t300 _ A5.out).mono ?_); rintro e w' ⟨rfl, ⟨nd, rfl⟩⟩; refine ⟨_, rfl, ?_⟩; (try (rw [drewN_self w6]; generalize hq_ : World.drewN w6 _ = w6; have n0_ : Aside0 (w6.heap[gb296]? = some (.cells #[.bool false, .bool false, .bool false, .bool false] 23 (0, 0))) := ⟨by rw [← hq_]; exact (by (with_reducible repeat (first | refine blk_drewN ?_ _ | refine blk_drew ?_ | refine blk_alloc ?_ _)); exact BK296.out)⟩; have n1_ : Aside0 (Below w.heap.size w w6) := ⟨by rw [← hq_]; exact (by repeat (first | (with_reducible first | exact HB.out | apply below_alloc | apply pw_below_drewN | apply below_drew1 | refine below_set ?_ GE296.out) | exact HB.out))⟩; clear BK296 HB hq_; have BK296 := n0_; have HB := n1_; clear n0_ n1_)); have hcz7_0 : w6.cell? ⟨gb296, 0, none⟩ = some (.bool false) := (blk_cell BK296.out 0).trans rfl; have hcz7_1 : w6.cell? ⟨gb296, 1, none⟩ = some (.bool false) := (blk_cell BK296.out 1).trans rfl; have hcz7_2 : w6.cell? ⟨gb296, 2, none⟩ = some (.bool false) := (blk_cell BK296.out 2).trans rfl; have hcz7_3 : w6.cell? ⟨gb296, 3, none⟩ = some (.bool false) := (blk_cell BK296.out 3).trans rfl; have hfz7_0 := blk_frozen BK296.out 0; have hfz7_1 := blk_frozen BK296.out 1; have hfz7_2 := blk_frozen BK296.out 2; have hfz7_3 := blk_frozen BK296.out 3))
  refine bodyPost_ret (results_cell_row rfl _ _ gb296 23 #[.bool t297, .bool t298, .bool t299, .bool t300] (0, 0) _ rfl (by (with_reducible repeat (first | refine blk_drewN ?_ _ | refine blk_drew ?_ | refine blk_alloc ?_ _)); refine blk_put (cs := #[.bool t297, .bool t298, .bool t299, .bool false]) ?_ 3 _ rfl; (with_reducible repeat (first | refine blk_drewN ?_ _ | refine blk_drew ?_ | refine blk_alloc ?_ _)); refine blk_put (cs := #[.bool t297, .bool t298, .bool false, .bool false]) ?_ 2 _ rfl; (with_reducible repeat (first | refine blk_drewN ?_ _ | refine blk_drew ?_ | refine blk_alloc ?_ _)); refine blk_put (cs := #[.bool t297, .bool false, .bool false, .bool false]) ?_ 1 _ rfl; (with_reducible repeat (first | refine blk_drewN ?_ _ | refine blk_drew ?_ | refine blk_alloc ?_ _)); refine blk_put (cs := #[.bool false, .bool false, .bool false, .bool false]) ?_ 0 _ rfl; (with_reducible repeat (first | refine blk_drewN ?_ _ | refine blk_drew ?_ | refine blk_alloc ?_ _)); exact BK296.out) Try.underlying23 rfl (by kernel_rfl)) rfl ?_
  exact ⟨by first | rfl | (simp [errW_none, errW_some] <;> rfl) | (simp [*, errW_none, errW_some] <;> rfl), by repeat (first | (with_reducible first | exact HB.out | apply below_alloc | apply pw_below_drewN | apply below_drew1 | refine below_set ?_ GE296.out) | exact HB.out)⟩

end Go.Proofs.Ytdfpaebbejdjlaa.G
