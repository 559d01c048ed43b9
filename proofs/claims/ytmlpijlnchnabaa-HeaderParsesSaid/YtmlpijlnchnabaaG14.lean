/- Written by a program of this session, after the kit's print: Go functions as Lean functions, each with the proof that the Go text comes to it. -/
import Derived.Test.YtmlpijlnchnabaaG0
import Derived.Test.YtmlpijlnchnabaaG9
import Derived.Test.YtmlpijlnchnabaaG11
import Derived.Test.YtmlpijlnchnabaaG12
import Derived.Test.YtmlpijlnchnabaaG13
namespace Go.Proofs.Ytmlpijlnchnabaa.G
open Go.RowKit Go.Proofs.YtmlpijlnchnabaaW.PrintWords Go.Proofs.YtmlpijlnchnabaaW.PrintLast Go.Proofs.YtmlpijlnchnabaaW.PrintMore
attribute [local go_sem] max2_int min2_int max_two min_two max_three min_three max_four min_four   -- for this text's walks alone
set_option linter.unusedVariables false
set_option linter.unusedSimpArgs false

/-! ### whirligigref07_Parse: function 11 -/
mutual
def whirligigref07_Parse.j0 : Nat → List Int → Int → Int → Bool → ByteArray → Int → Int → Bool → Bool → Bool → Int → Int → Int → Int → Option (ByteArray × Int × Int × Bool × Bool × Bool × Int × Int × Int × Int × Int)
  | 0, _, _, _, _, _, _, _, _, _, _, _, _, _, _ => none
  | k + 1, x0, x6, x7, x44, x187000, x187001, x187002, x187003, x187004, x187005, x187006, x187007, x187008, x187009 => if x44 = true then (some ((⟨#[]⟩ : ByteArray), 0, 0, false, false, false, 0, 0, 0, 0, 5)) else ((whirligigref07_Sum.f k x0).bind fun bt190 => (if 333 < (x0.length : Int) then (if bt190.1 = (rd x0 333) then (whirligigref07_Parse.l0 k x0 x6 x7 bt190.1 308 x187000 x187001 x187002 x187003 x187004 x187005 x187006 x187007 x187008 x187009) else (some ((⟨#[]⟩ : ByteArray), 0, 0, false, false, false, 0, 0, 0, 0, 3))) else (none)))
def whirligigref07_Parse.l0 : Nat → List Int → Int → Int → Int → Int → ByteArray → Int → Int → Bool → Bool → Bool → Int → Int → Int → Int → Option (ByteArray × Int × Int × Bool × Bool × Bool × Int × Int × Int × Int × Int)
  | 0, _, _, _, _, _, _, _, _, _, _, _, _, _, _, _ => none
  | k + 1, x0, x6, x7, x8, x10, x187000, x187001, x187002, x187003, x187004, x187005, x187006, x187007, x187008, x187009 => if x10 < 324 then (if 0 ≤ x10 then (if x10 < (x0.length : Int) then ((whirligigref07_signs.f (rd x0 x10)).bind fun t194 => (if t194 = true then ((some (([rd x0 x10] : List Int) : List Int)).bind fun y196 => (if x187000.size + (strOfNums y196).size ≤ 9223372036854775807 then (whirligigref07_Parse.l0 k x0 x6 x7 x8 (wrap64 (x10 + 1)) (x187000 ++ (strOfNums y196)) x187001 x187002 x187003 x187004 x187005 x187006 x187007 x187008 x187009) else (none))) else ((whirligigref07_Most.f k x6).bind fun t199 => (if x187003 = true then ((some (([0, 2048, 8192, 32768, 131072, 65536] : List Int) : List Int)).bind fun y200 => (if 0 ≤ x7 then (if x7 < (y200.length : Int) then (if 334 < (x0.length : Int) then (if 335 < (x0.length : Int) then (some (x187000, x187001, x187002, x187003, x187004, x187005, wrap64 (Int.tdiv t199 16384), rd y200 x7, x8, IntKind.u16.wrap (wrap64 ((wrap64 (256 * (wrap64 (rd x0 334)))) + (wrap64 (rd x0 335)))), 0)) else (none)) else (none)) else (none)) else (none))) else (if 334 < (x0.length : Int) then (if 335 < (x0.length : Int) then (some (x187000, x187001, x187002, x187003, x187004, x187005, wrap64 (Int.tdiv t199 16384), x187007, x8, IntKind.u16.wrap (wrap64 ((wrap64 (256 * (wrap64 (rd x0 334)))) + (wrap64 (rd x0 335)))), 0)) else (none)) else (none)))))) else (none)) else (none)) else ((whirligigref07_Most.f k x6).bind fun t208 => (if x187003 = true then ((some (([0, 2048, 8192, 32768, 131072, 65536] : List Int) : List Int)).bind fun y209 => (if 0 ≤ x7 then (if x7 < (y209.length : Int) then (if 334 < (x0.length : Int) then (if 335 < (x0.length : Int) then (some (x187000, x187001, x187002, x187003, x187004, x187005, wrap64 (Int.tdiv t208 16384), rd y209 x7, x8, IntKind.u16.wrap (wrap64 ((wrap64 (256 * (wrap64 (rd x0 334)))) + (wrap64 (rd x0 335)))), 0)) else (none)) else (none)) else (none)) else (none))) else (if 334 < (x0.length : Int) then (if 335 < (x0.length : Int) then (some (x187000, x187001, x187002, x187003, x187004, x187005, wrap64 (Int.tdiv t208 16384), x187007, x8, IntKind.u16.wrap (wrap64 ((wrap64 (256 * (wrap64 (rd x0 334)))) + (wrap64 (rd x0 335)))), 0)) else (none)) else (none))))
end
def whirligigref07_Parse.f (k : Nat) (l0 : List Int) : Option (ByteArray × Int × Int × Bool × Bool × Bool × Int × Int × Int × Int × Int) := if (l0.length : Int) < 336 then (some ((⟨#[]⟩ : ByteArray), 0, 0, false, false, false, 0, 0, 0, 0, 2)) else (if 327 < (l0.length : Int) then ((whirligigref07_Kinds.f k (rd l0 327)).bind fun bt175 => (if bt175.2.2.2.2.2.2.2.2.2.2 = true then (if 328 < (l0.length : Int) then (if 329 < (l0.length : Int) then (if (rd l0 328) > 8 then (whirligigref07_Parse.j0 k l0 (rd l0 328) (rd l0 329) true bt175.1 bt175.2.1 bt175.2.2.1 bt175.2.2.2.1 bt175.2.2.2.2.1 bt175.2.2.2.2.2.1 bt175.2.2.2.2.2.2.1 bt175.2.2.2.2.2.2.2.1 bt175.2.2.2.2.2.2.2.2.1 bt175.2.2.2.2.2.2.2.2.2.1) else (if (rd l0 329) > 5 then (whirligigref07_Parse.j0 k l0 (rd l0 328) (rd l0 329) true bt175.1 bt175.2.1 bt175.2.2.1 bt175.2.2.2.1 bt175.2.2.2.2.1 bt175.2.2.2.2.2.1 bt175.2.2.2.2.2.2.1 bt175.2.2.2.2.2.2.2.1 bt175.2.2.2.2.2.2.2.2.1 bt175.2.2.2.2.2.2.2.2.2.1) else ((whirligigref07_Most.f k (rd l0 328)).bind fun t189 => (whirligigref07_Parse.j0 k l0 (rd l0 328) (rd l0 329) (decide ((l0.length : Int) > t189)) bt175.1 bt175.2.1 bt175.2.2.1 bt175.2.2.2.1 bt175.2.2.2.2.1 bt175.2.2.2.2.2.1 bt175.2.2.2.2.2.2.1 bt175.2.2.2.2.2.2.2.1 bt175.2.2.2.2.2.2.2.2.1 bt175.2.2.2.2.2.2.2.2.2.1)))) else (none)) else (none)) else (some ((⟨#[]⟩ : ByteArray), 0, 0, false, false, false, 0, 0, 0, 0, 4)))) else (none))
theorem whirligigref07_Parse.mono_l : ∀ k, (∀ y0 y1 y2 y3 y4 y5 y6 y7 y8 y9 y10 y11 y12 y13, LeO (whirligigref07_Parse.j0 k y0 y1 y2 y3 y4 y5 y6 y7 y8 y9 y10 y11 y12 y13) (whirligigref07_Parse.j0 (k + 1) y0 y1 y2 y3 y4 y5 y6 y7 y8 y9 y10 y11 y12 y13)) ∧ (∀ y0 y1 y2 y3 y4 y5 y6 y7 y8 y9 y10 y11 y12 y13 y14, LeO (whirligigref07_Parse.l0 k y0 y1 y2 y3 y4 y5 y6 y7 y8 y9 y10 y11 y12 y13 y14) (whirligigref07_Parse.l0 (k + 1) y0 y1 y2 y3 y4 y5 y6 y7 y8 y9 y10 y11 y12 y13 y14))
  | 0 => ⟨fun _ _ _ _ _ _ _ _ _ _ _ _ _ _ r h => by simp [whirligigref07_Parse.j0] at h, fun _ _ _ _ _ _ _ _ _ _ _ _ _ _ _ r h => by simp [whirligigref07_Parse.l0] at h⟩
  | k + 1 => by
    obtain ⟨ih0, ih1⟩ := whirligigref07_Parse.mono_l k
    refine ⟨?_, ?_⟩
    · intro y0 y1 y2 y3 y4 y5 y6 y7 y8 y9 y10 y11 y12 y13
      unfold whirligigref07_Parse.j0
      repeat' first
      | (with_reducible exact ih0 _ _ _ _ _ _ _ _ _ _ _ _ _ _)
      | (with_reducible exact ih1 _ _ _ _ _ _ _ _ _ _ _ _ _ _ _)
      | (with_reducible exact whirligigref07_Kinds.mono _ _)
      | (with_reducible exact whirligigref07_Most.mono _ _)
      | (with_reducible exact whirligigref07_Sum.mono _ _)
      | (with_reducible exact LeO.refl _)
      | (with_reducible exact LeO.none _)
      | (with_reducible refine LeO.ite ?_ ?_)
      | (with_reducible refine LeO.bind ?_ (fun _ => ?_))
      | exact ih0 _ _ _ _ _ _ _ _ _ _ _ _ _ _
      | exact ih1 _ _ _ _ _ _ _ _ _ _ _ _ _ _ _
      | exact whirligigref07_Kinds.mono _ _
      | exact whirligigref07_Most.mono _ _
      | exact whirligigref07_Sum.mono _ _
      | exact LeO.none _
      | refine LeO.ite ?_ ?_
      | refine LeO.bind ?_ (fun _ => ?_)
    · intro y0 y1 y2 y3 y4 y5 y6 y7 y8 y9 y10 y11 y12 y13 y14
      unfold whirligigref07_Parse.l0
      repeat' first
      | (with_reducible exact ih0 _ _ _ _ _ _ _ _ _ _ _ _ _ _)
      | (with_reducible exact ih1 _ _ _ _ _ _ _ _ _ _ _ _ _ _ _)
      | (with_reducible exact whirligigref07_Kinds.mono _ _)
      | (with_reducible exact whirligigref07_Most.mono _ _)
      | (with_reducible exact whirligigref07_Sum.mono _ _)
      | (with_reducible exact LeO.refl _)
      | (with_reducible exact LeO.none _)
      | (with_reducible refine LeO.ite ?_ ?_)
      | (with_reducible refine LeO.bind ?_ (fun _ => ?_))
      | exact ih0 _ _ _ _ _ _ _ _ _ _ _ _ _ _
      | exact ih1 _ _ _ _ _ _ _ _ _ _ _ _ _ _ _
      | exact whirligigref07_Kinds.mono _ _
      | exact whirligigref07_Most.mono _ _
      | exact whirligigref07_Sum.mono _ _
      | exact LeO.none _
      | refine LeO.ite ?_ ?_
      | refine LeO.bind ?_ (fun _ => ?_)
theorem whirligigref07_Parse.mono : ∀ a0 k, LeO (whirligigref07_Parse.f k a0) (whirligigref07_Parse.f (k + 1) a0) := by
  intro a0 k
  obtain ⟨ih0, ih1⟩ := whirligigref07_Parse.mono_l k
  unfold whirligigref07_Parse.f
  repeat' first
      | (with_reducible exact ih0 _ _ _ _ _ _ _ _ _ _ _ _ _ _)
      | (with_reducible exact ih1 _ _ _ _ _ _ _ _ _ _ _ _ _ _ _)
      | (with_reducible exact whirligigref07_Kinds.mono _ _)
      | (with_reducible exact whirligigref07_Most.mono _ _)
      | (with_reducible exact whirligigref07_Sum.mono _ _)
      | (with_reducible exact LeO.refl _)
      | (with_reducible exact LeO.none _)
      | (with_reducible refine LeO.ite ?_ ?_)
      | (with_reducible refine LeO.bind ?_ (fun _ => ?_))
      | exact ih0 _ _ _ _ _ _ _ _ _ _ _ _ _ _
      | exact ih1 _ _ _ _ _ _ _ _ _ _ _ _ _ _ _
      | exact whirligigref07_Kinds.mono _ _
      | exact whirligigref07_Most.mono _ _
      | exact whirligigref07_Sum.mono _ _
      | exact LeO.none _
      | refine LeO.ite ?_ ?_
      | refine LeO.bind ?_ (fun _ => ?_)
def whirligigref07_Parse.T16 : Bool × List (List Nat × List Nat) := (true, [([], []), ([0], [0]), ([], []), ([], []), ([2, 3], [2, 3]), ([4], [4]), ([5], [5]), ([6], [6]), ([1, 7], [1, 7]), ([0, 1, 2, 3, 4, 5, 6, 7, 8], []), ([9, 8, 0, 1, 2, 3, 4, 5, 6, 7, 8], [8, 9])])
def whirligigref07_Parse.B16 : List Nat := [0, 1, 0, 0, 12, 28, 60, 124, 255, 511, 1023]
theorem whirligigref07_Parse.tab16 : rtab .any (opsOf Try.f11 16) = whirligigref07_Parse.T16 := by kernel_rfl
theorem whirligigref07_Parse.bits16 : waitsOk whirligigref07_Parse.T16.2 whirligigref07_Parse.B16 = true := by kernel_rfl
def whirligigref07_Parse.T22 : Bool × List (List Nat × List Nat) := (true, [([], []), ([0], [0]), ([1], [1]), ([2], [2]), ([3], [3]), ([], []), ([5], [5]), ([6], [6]), ([7], [7]), ([4, 8], [4, 8]), ([9], [9]), ([0, 1, 2, 3, 4, 5, 6, 7, 8, 9, 10], []), ([11, 10, 0, 1, 2, 3, 4, 5, 6, 7, 8, 9, 10], [10, 11])])
def whirligigref07_Parse.B22 : List Nat := [0, 1, 3, 7, 15, 0, 32, 96, 224, 511, 1023, 2047, 4095]
theorem whirligigref07_Parse.tab22 : rtab .any (opsOf Try.f11 22) = whirligigref07_Parse.T22 := by kernel_rfl
theorem whirligigref07_Parse.bits22 : waitsOk whirligigref07_Parse.T22.2 whirligigref07_Parse.B22 = true := by kernel_rfl
set_option maxHeartbeats 8000000 in
set_option maxRecDepth 100000 in
theorem whirligigref07_Parse.calls (k : Nat) (A0 : Option Addr) (c0 : Nat) (l0 : List Int) (r1 : ByteArray) (r2 : Int) (r3 : Int) (r4 : Bool) (r5 : Bool) (r6 : Bool) (r7 : Int) (r8 : Int) (r9 : Int) (r10 : Int) (r11 : Int) (w : World) (hr0 : Kd.C (Kd.int .u8) w A0 l0.length l0) (hc0 : l0.length ≤ c0) (h : whirligigref07_Parse.f k l0 = some (r1, r2, r3, r4, r5, r6, r7, r8, r9, r10, r11)) :
    Calls Try.prog 11 #[.slice A0 l0.length c0] w fun e w' => e = .returned (.tuple #[.agg #[.string r1, .int .u8 r2, .int .i64 r3, .bool r4, .bool r5, .bool r6, .int .i64 r7, .int .i64 r8, .int .u8 r9, .int .u16 r10], .int .i64 r11]) ∧ Below w.heap.size w w' := by
  have hu26 := Try.underlying26
  have HR0 := Aside0.mk hr0
  have HC0 := Aside0.mk hc0
  clear hr0 hc0
  have HB := Aside0.mk (Below.refl w.heap.size w)
  have H : (if (l0.length : Int) < 336 then (some ((⟨#[]⟩ : ByteArray), 0, 0, false, false, false, 0, 0, 0, 0, 2)) else (if 327 < (l0.length : Int) then ((whirligigref07_Kinds.f k (rd l0 327)).bind fun bt175 => (if bt175.2.2.2.2.2.2.2.2.2.2 = true then (if 328 < (l0.length : Int) then (if 329 < (l0.length : Int) then (if (rd l0 328) > 8 then (whirligigref07_Parse.j0 k l0 (rd l0 328) (rd l0 329) true bt175.1 bt175.2.1 bt175.2.2.1 bt175.2.2.2.1 bt175.2.2.2.2.1 bt175.2.2.2.2.2.1 bt175.2.2.2.2.2.2.1 bt175.2.2.2.2.2.2.2.1 bt175.2.2.2.2.2.2.2.2.1 bt175.2.2.2.2.2.2.2.2.2.1) else (if (rd l0 329) > 5 then (whirligigref07_Parse.j0 k l0 (rd l0 328) (rd l0 329) true bt175.1 bt175.2.1 bt175.2.2.1 bt175.2.2.2.1 bt175.2.2.2.2.1 bt175.2.2.2.2.2.1 bt175.2.2.2.2.2.2.1 bt175.2.2.2.2.2.2.2.1 bt175.2.2.2.2.2.2.2.2.1 bt175.2.2.2.2.2.2.2.2.2.1) else ((whirligigref07_Most.f k (rd l0 328)).bind fun t189 => (whirligigref07_Parse.j0 k l0 (rd l0 328) (rd l0 329) (decide ((l0.length : Int) > t189)) bt175.1 bt175.2.1 bt175.2.2.1 bt175.2.2.2.1 bt175.2.2.2.2.1 bt175.2.2.2.2.2.1 bt175.2.2.2.2.2.2.1 bt175.2.2.2.2.2.2.2.1 bt175.2.2.2.2.2.2.2.2.1 bt175.2.2.2.2.2.2.2.2.2.1)))) else (none)) else (none)) else (some ((⟨#[]⟩ : ByteArray), 0, 0, false, false, false, 0, 0, 0, 0, 4)))) else (none))) = some (r1, r2, r3, r4, r5, r6, r7, r8, r9, r10, r11) := h
  clear h
  by_cases c2 : (l0.length : Int) < 336
  · rw [if_pos c2] at H
    have c2b0 : decide ((l0.length : Int) < 336) = true := decide_eq_true c2
    have c2b1 : decide (l0.length < 336) = true := decide_eq_true (by omega)
    clear c2
    simp only [Option.some.injEq, Prod.mk.injEq] at H
    obtain ⟨rfl, rfl, rfl, rfl, rfl, rfl, rfl, rfl, rfl, rfl, rfl⟩ := H
    go_enter Try.func11, Try.ntmps11
    go_wp2_with (first | ((with_reducible refine gate_dst (N := 2) rfl ?_); (try (refine gate_guard (by rfl) ?_; dsimp only)); refine box_event ?hg (N := 2) ?hd (cs := #[.string (⟨#[]⟩ : ByteArray), .int .u8 0, .int .i64 0, .bool false, .bool false, .bool false, .int .i64 0, .int .i64 0, .int .u8 0, .int .u16 0]) (t := 26) ?hr ?_; (case hd => rfl); (case hg => rfl); (case hr => first | (go_simp; done) | (go_simp; rfl)); intro gb173 hg w3 hbox hb; have n0_ := Aside0.mk (below_step (by repeat (first | (with_reducible first | exact HB.out | apply below_alloc | apply pw_below_drewN | apply below_drew1) | exact HB.out)) hb); have n1_ := Aside0.mk (hbox); have n2_ := Aside0.mk ((by rw [hg]; exact (below_size (by repeat (first | (with_reducible first | exact HB.out | apply below_alloc | apply pw_below_drewN | apply below_drew1) | exact HB.out))) : w.heap.size ≤ gb173)); have n3_ := Aside0.mk ((by rw [hg]; exact (below_size (by repeat (first | (with_reducible first | exact HB.out | apply below_alloc | apply pw_below_drewN | apply below_drew1) | exact HB.out))) : w.heap.size ≤ gb173)); clear HB; have HB := n0_; have BK173 := n1_; have GW173 := n2_; have GE173 := n3_; clear n0_ n1_ n2_ n3_; clear hb hbox hg; have hcz4_0 : w3.cell? ⟨gb173, 0, none⟩ = some (.string (⟨#[]⟩ : ByteArray)) := (blk_cell BK173.out 0).trans rfl; have hcz4_1 : w3.cell? ⟨gb173, 1, none⟩ = some (.int .u8 0) := (blk_cell BK173.out 1).trans rfl; have hcz4_2 : w3.cell? ⟨gb173, 2, none⟩ = some (.int .i64 0) := (blk_cell BK173.out 2).trans rfl; have hcz4_3 : w3.cell? ⟨gb173, 3, none⟩ = some (.bool false) := (blk_cell BK173.out 3).trans rfl; have hcz4_4 : w3.cell? ⟨gb173, 4, none⟩ = some (.bool false) := (blk_cell BK173.out 4).trans rfl; have hcz4_5 : w3.cell? ⟨gb173, 5, none⟩ = some (.bool false) := (blk_cell BK173.out 5).trans rfl; have hcz4_6 : w3.cell? ⟨gb173, 6, none⟩ = some (.int .i64 0) := (blk_cell BK173.out 6).trans rfl; have hcz4_7 : w3.cell? ⟨gb173, 7, none⟩ = some (.int .i64 0) := (blk_cell BK173.out 7).trans rfl; have hcz4_8 : w3.cell? ⟨gb173, 8, none⟩ = some (.int .u8 0) := (blk_cell BK173.out 8).trans rfl; have hcz4_9 : w3.cell? ⟨gb173, 9, none⟩ = some (.int .u16 0) := (blk_cell BK173.out 9).trans rfl; have hfz4_0 := blk_frozen BK173.out 0; have hfz4_1 := blk_frozen BK173.out 1; have hfz4_2 := blk_frozen BK173.out 2; have hfz4_3 := blk_frozen BK173.out 3; have hfz4_4 := blk_frozen BK173.out 4; have hfz4_5 := blk_frozen BK173.out 5; have hfz4_6 := blk_frozen BK173.out 6; have hfz4_7 := blk_frozen BK173.out 7; have hfz4_8 := blk_frozen BK173.out 8; have hfz4_9 := blk_frozen BK173.out 9))
    refine bodyPost_ret (results_ct rfl _ _ gb173 26 #[.string (⟨#[]⟩ : ByteArray), .int .u8 0, .int .i64 0, .bool false, .bool false, .bool false, .int .i64 0, .int .i64 0, .int .u8 0, .int .u16 0] (0, 0) _ rfl (by (with_reducible repeat (first | refine blk_drewN ?_ _ | refine blk_drew ?_ | refine blk_alloc ?_ _)); refine blk_put (cs := #[.string (⟨#[]⟩ : ByteArray), .int .u8 0, .int .i64 0, .bool false, .bool false, .bool false, .int .i64 0, .int .i64 0, .int .u8 0, .int .u16 0]) ?_ 9 _ rfl; (with_reducible repeat (first | refine blk_drewN ?_ _ | refine blk_drew ?_ | refine blk_alloc ?_ _)); refine blk_put (cs := #[.string (⟨#[]⟩ : ByteArray), .int .u8 0, .int .i64 0, .bool false, .bool false, .bool false, .int .i64 0, .int .i64 0, .int .u8 0, .int .u16 0]) ?_ 8 _ rfl; (with_reducible repeat (first | refine blk_drewN ?_ _ | refine blk_drew ?_ | refine blk_alloc ?_ _)); refine blk_put (cs := #[.string (⟨#[]⟩ : ByteArray), .int .u8 0, .int .i64 0, .bool false, .bool false, .bool false, .int .i64 0, .int .i64 0, .int .u8 0, .int .u16 0]) ?_ 7 _ rfl; (with_reducible repeat (first | refine blk_drewN ?_ _ | refine blk_drew ?_ | refine blk_alloc ?_ _)); refine blk_put (cs := #[.string (⟨#[]⟩ : ByteArray), .int .u8 0, .int .i64 0, .bool false, .bool false, .bool false, .int .i64 0, .int .i64 0, .int .u8 0, .int .u16 0]) ?_ 6 _ rfl; (with_reducible repeat (first | refine blk_drewN ?_ _ | refine blk_drew ?_ | refine blk_alloc ?_ _)); refine blk_put (cs := #[.string (⟨#[]⟩ : ByteArray), .int .u8 0, .int .i64 0, .bool false, .bool false, .bool false, .int .i64 0, .int .i64 0, .int .u8 0, .int .u16 0]) ?_ 5 _ rfl; (with_reducible repeat (first | refine blk_drewN ?_ _ | refine blk_drew ?_ | refine blk_alloc ?_ _)); refine blk_put (cs := #[.string (⟨#[]⟩ : ByteArray), .int .u8 0, .int .i64 0, .bool false, .bool false, .bool false, .int .i64 0, .int .i64 0, .int .u8 0, .int .u16 0]) ?_ 4 _ rfl; (with_reducible repeat (first | refine blk_drewN ?_ _ | refine blk_drew ?_ | refine blk_alloc ?_ _)); refine blk_put (cs := #[.string (⟨#[]⟩ : ByteArray), .int .u8 0, .int .i64 0, .bool false, .bool false, .bool false, .int .i64 0, .int .i64 0, .int .u8 0, .int .u16 0]) ?_ 3 _ rfl; (with_reducible repeat (first | refine blk_drewN ?_ _ | refine blk_drew ?_ | refine blk_alloc ?_ _)); refine blk_put (cs := #[.string (⟨#[]⟩ : ByteArray), .int .u8 0, .int .i64 0, .bool false, .bool false, .bool false, .int .i64 0, .int .i64 0, .int .u8 0, .int .u16 0]) ?_ 2 _ rfl; (with_reducible repeat (first | refine blk_drewN ?_ _ | refine blk_drew ?_ | refine blk_alloc ?_ _)); refine blk_put (cs := #[.string (⟨#[]⟩ : ByteArray), .int .u8 0, .int .i64 0, .bool false, .bool false, .bool false, .int .i64 0, .int .i64 0, .int .u8 0, .int .u16 0]) ?_ 1 _ rfl; (with_reducible repeat (first | refine blk_drewN ?_ _ | refine blk_drew ?_ | refine blk_alloc ?_ _)); refine blk_put (cs := #[.string (⟨#[]⟩ : ByteArray), .int .u8 0, .int .i64 0, .bool false, .bool false, .bool false, .int .i64 0, .int .i64 0, .int .u8 0, .int .u16 0]) ?_ 0 _ rfl; (with_reducible repeat (first | refine blk_drewN ?_ _ | refine blk_drew ?_ | refine blk_alloc ?_ _)); exact BK173.out) Try.underlying26 rfl (by kernel_rfl)) rfl ?_
    exact ⟨by first | rfl | (simp [errW_none, errW_some] <;> rfl) | (simp [*, errW_none, errW_some] <;> rfl), by repeat (first | (with_reducible first | exact HB.out | apply below_alloc | apply pw_below_drewN | apply below_drew1 | refine below_set ?_ GE173.out) | exact HB.out)⟩
  · rw [if_neg c2] at H
    have c2b0 : decide ((l0.length : Int) < 336) = false := decide_eq_false c2
    have c2b1 : decide (l0.length < 336) = false := decide_eq_false (by omega)
    clear c2
    by_cases c5 : 327 < (l0.length : Int)
    · rw [if_pos c5] at H
      have c5b0 : decide (327 < (l0.length : Int)) = true := decide_eq_true c5
      have c5b1 : decide (327 < l0.length) = true := decide_eq_true (by omega)
      clear c5
      replace H := Option.bind_eq_some_iff.mp H
      obtain ⟨⟨t175, t176, t177, t178, t179, t180, t181, t182, t183, t184, t185⟩, A60, H⟩ := H
      replace H : (if t185 = true then (if 328 < (l0.length : Int) then (if 329 < (l0.length : Int) then (if (rd l0 328) > 8 then (whirligigref07_Parse.j0 k l0 (rd l0 328) (rd l0 329) true t175 t176 t177 t178 t179 t180 t181 t182 t183 t184) else (if (rd l0 329) > 5 then (whirligigref07_Parse.j0 k l0 (rd l0 328) (rd l0 329) true t175 t176 t177 t178 t179 t180 t181 t182 t183 t184) else ((whirligigref07_Most.f k (rd l0 328)).bind fun t189 => (whirligigref07_Parse.j0 k l0 (rd l0 328) (rd l0 329) (decide ((l0.length : Int) > t189)) t175 t176 t177 t178 t179 t180 t181 t182 t183 t184)))) else (none)) else (none)) else (some ((⟨#[]⟩ : ByteArray), 0, 0, false, false, false, 0, 0, 0, 0, 4))) = some (r1, r2, r3, r4, r5, r6, r7, r8, r9, r10, r11) := H
      have A6 := Aside0.mk A60
      clear A60
      by_cases c7 : t185 = true
      · subst c7
        have H1 : (if 328 < (l0.length : Int) then (if 329 < (l0.length : Int) then (if (rd l0 328) > 8 then (whirligigref07_Parse.j0 k l0 (rd l0 328) (rd l0 329) true t175 t176 t177 t178 t179 t180 t181 t182 t183 t184) else (if (rd l0 329) > 5 then (whirligigref07_Parse.j0 k l0 (rd l0 328) (rd l0 329) true t175 t176 t177 t178 t179 t180 t181 t182 t183 t184) else ((whirligigref07_Most.f k (rd l0 328)).bind fun t189 => (whirligigref07_Parse.j0 k l0 (rd l0 328) (rd l0 329) (decide ((l0.length : Int) > t189)) t175 t176 t177 t178 t179 t180 t181 t182 t183 t184)))) else (none)) else (none)) = some (r1, r2, r3, r4, r5, r6, r7, r8, r9, r10, r11) := by rw [if_pos rfl] at H; exact H
        clear H
        have H := H1
        clear H1
        by_cases c8 : 328 < (l0.length : Int)
        · rw [if_pos c8] at H
          have c8b0 : decide (328 < (l0.length : Int)) = true := decide_eq_true c8
          have c8b1 : decide (328 < l0.length) = true := decide_eq_true (by omega)
          clear c8
          by_cases c9 : 329 < (l0.length : Int)
          · rw [if_pos c9] at H
            have c9b0 : decide (329 < (l0.length : Int)) = true := decide_eq_true c9
            have c9b1 : decide (329 < l0.length) = true := decide_eq_true (by omega)
            clear c9
            have HC10 := Aside0.mk H
            clear H
            go_enter Try.func11, Try.ntmps11
            go_upto_region 8 with (first | ((with_reducible refine gate_dst (N := 2) rfl ?_); (try (refine gate_guard (by rfl) ?_; dsimp only)); refine box_event ?hg (N := 2) ?hd (cs := #[.string (⟨#[]⟩ : ByteArray), .int .u8 0, .int .i64 0, .bool false, .bool false, .bool false, .int .i64 0, .int .i64 0, .int .u8 0, .int .u16 0]) (t := 26) ?hr ?_; (case hd => rfl); (case hg => rfl); (case hr => first | (go_simp; done) | (go_simp; rfl)); intro gb173 hg w11 hbox hb; have n0_ := Aside0.mk (below_step (by repeat (first | (with_reducible first | exact HB.out | apply below_alloc | apply pw_below_drewN | apply below_drew1) | exact HB.out)) hb); have n1_ := Aside0.mk (hbox); have n2_ := Aside0.mk ((by rw [hg]; exact (below_size (by repeat (first | (with_reducible first | exact HB.out | apply below_alloc | apply pw_below_drewN | apply below_drew1) | exact HB.out))) : w.heap.size ≤ gb173)); have n3_ := Aside0.mk ((by rw [hg]; exact (below_size (by repeat (first | (with_reducible first | exact HB.out | apply below_alloc | apply pw_below_drewN | apply below_drew1) | exact HB.out))) : w.heap.size ≤ gb173)); clear HB; have HB := n0_; have BK173 := n1_; have GW173 := n2_; have GE173 := n3_; clear n0_ n1_ n2_ n3_; clear hb hbox hg; have p174 : 0 ≤ (327 : Int) := (by omega); have q174 : 327 < (l0.length : Int) := of_decide_eq_true (by first | (with_reducible assumption) | assumption); obtain ⟨ad174, e174, hx174_0⟩ := Kd.at_int HR0.out 327 p174 q174; cases e174; (try simp only [show (327 : Int).toNat = 327 from rfl, Nat.reduceMul, Nat.reduceEqDiff, Go.Addr.add, ↓reduceIte] at hx174_0); have qi174 : (327 < l0.length) = True := eq_true (by omega); (try rw [show ((327 : Int)).toNat = 327 from rfl] at hx174_0); replace hx174_0 := (HB.out.cell (World.block_lt_of_cell? w _ hx174_0)).trans hx174_0; replace p174 := eq_true p174; replace q174 := eq_true q174) | ((with_reducible refine gate_callee (f := 25) rfl ?_); refine goesL_ (some 20) rfl rfl Try.func25 (by kernel_rfl) rfl #[.int .u8 (rd l0 327)] rfl (by (try simp only [List.map_toArray, List.map_cons, List.map_nil]); first | done | rfl | (simp only [List.length_drop, List.length_take]; rfl)) ?_; (with_reducible refine (whirligigref07_Kinds.calls k (rd l0 327) t175 t176 t177 t178 t179 t180 t181 t182 t183 t184 true _ A6.out).mono ?_); rintro e w12 ⟨rfl, hb⟩; refine ⟨_, rfl, ?_⟩; have n0_ := Aside0.mk (blk_below (g := gb173) (o := .cells #[.string (⟨#[]⟩ : ByteArray), .int .u8 0, .int .i64 0, .bool false, .bool false, .bool false, .int .i64 0, .int .i64 0, .int .u8 0, .int .u16 0] 26 (0, 0)) (by (with_reducible repeat (first | refine blk_drewN ?_ _ | refine blk_drew ?_ | refine blk_alloc ?_ _)); exact BK173.out) hb); have n1_ := Aside0.mk (below_step (by repeat (first | (with_reducible first | exact HB.out | apply below_alloc | apply pw_below_drewN | apply below_drew1 | refine below_set ?_ GE173.out) | exact HB.out)) hb); clear BK173; clear HB; have BK173 := n0_; have HB := n1_; clear n0_ n1_; (try clear hb); (try clear hb2); (try clear hk); (try clear hi)) | ((with_reducible refine gate_dst (N := 4) rfl ?_); (try (refine gate_guard (by rfl) ?_; dsimp only)); refine box_event ?hg (N := 4) ?hd (cs := #[.string (⟨#[]⟩ : ByteArray), .int .u8 0, .int .i64 0, .bool false, .bool false, .bool false, .int .i64 0, .int .i64 0, .int .u8 0, .int .u16 0]) (t := 26) ?hr ?_; (case hd => rfl); (case hg => rfl); (case hr => first | (go_simp; done) | (go_simp; rfl)); intro gb186 hg w13 hbox hb; have n0_ := Aside0.mk (blk_below (g := gb173) (o := .cells #[.string (⟨#[]⟩ : ByteArray), .int .u8 0, .int .i64 0, .bool false, .bool false, .bool false, .int .i64 0, .int .i64 0, .int .u8 0, .int .u16 0] 26 (0, 0)) (by (with_reducible repeat (first | refine blk_drewN ?_ _ | refine blk_drew ?_ | refine blk_alloc ?_ _)); exact BK173.out) hb); have n1_ := Aside0.mk (below_step (by repeat (first | (with_reducible first | exact HB.out | apply below_alloc | apply pw_below_drewN | apply below_drew1 | refine below_set ?_ GE173.out) | exact HB.out)) hb); have n2_ := Aside0.mk (hbox); have n3_ := Aside0.mk ((by rw [hg]; exact (below_size (by repeat (first | (with_reducible first | exact HB.out | apply below_alloc | apply pw_below_drewN | apply below_drew1 | refine below_set ?_ GE173.out) | exact HB.out))) : w.heap.size ≤ gb186)); have n4_ := Aside0.mk ((by rw [hg]; exact (below_size (by repeat (first | (with_reducible first | exact HB.out | apply below_alloc | apply pw_below_drewN | apply below_drew1 | refine below_set ?_ GE173.out) | exact HB.out))) : w.heap.size ≤ gb186)); have n5_ := Aside0.mk ((by rw [hg]; exact Nat.ne_of_lt (blk_lt (g := gb173) (o := .cells #[.string (⟨#[]⟩ : ByteArray), .int .u8 0, .int .i64 0, .bool false, .bool false, .bool false, .int .i64 0, .int .i64 0, .int .u8 0, .int .u16 0] 26 (0, 0)) (by (with_reducible repeat (first | refine blk_drewN ?_ _ | refine blk_drew ?_ | refine blk_alloc ?_ _)); exact BK173.out)) : gb173 ≠ gb186)); have n6_ := Aside0.mk ((by rw [hg]; exact Nat.ne_of_gt (blk_lt (g := gb173) (o := .cells #[.string (⟨#[]⟩ : ByteArray), .int .u8 0, .int .i64 0, .bool false, .bool false, .bool false, .int .i64 0, .int .i64 0, .int .u8 0, .int .u16 0] 26 (0, 0)) (by (with_reducible repeat (first | refine blk_drewN ?_ _ | refine blk_drew ?_ | refine blk_alloc ?_ _)); exact BK173.out)) : gb186 ≠ gb173)); clear BK173; clear HB; have BK173 := n0_; have HB := n1_; have BK186 := n2_; have GW186 := n3_; have GE186 := n4_; have NB173_186 := n5_; have NB186_173 := n6_; clear n0_ n1_ n2_ n3_ n4_ n5_ n6_; clear hb hbox hg; have hnb14 := NB186_173.out; have hnc14 := NB173_186.out; have hcz15_0 : w13.cell? ⟨gb186, 0, none⟩ = some (.string (⟨#[]⟩ : ByteArray)) := (blk_cell BK186.out 0).trans rfl; have hcz15_1 : w13.cell? ⟨gb186, 1, none⟩ = some (.int .u8 0) := (blk_cell BK186.out 1).trans rfl; have hcz15_2 : w13.cell? ⟨gb186, 2, none⟩ = some (.int .i64 0) := (blk_cell BK186.out 2).trans rfl; have hcz15_3 : w13.cell? ⟨gb186, 3, none⟩ = some (.bool false) := (blk_cell BK186.out 3).trans rfl; have hcz15_4 : w13.cell? ⟨gb186, 4, none⟩ = some (.bool false) := (blk_cell BK186.out 4).trans rfl; have hcz15_5 : w13.cell? ⟨gb186, 5, none⟩ = some (.bool false) := (blk_cell BK186.out 5).trans rfl; have hcz15_6 : w13.cell? ⟨gb186, 6, none⟩ = some (.int .i64 0) := (blk_cell BK186.out 6).trans rfl; have hcz15_7 : w13.cell? ⟨gb186, 7, none⟩ = some (.int .i64 0) := (blk_cell BK186.out 7).trans rfl; have hcz15_8 : w13.cell? ⟨gb186, 8, none⟩ = some (.int .u8 0) := (blk_cell BK186.out 8).trans rfl; have hcz15_9 : w13.cell? ⟨gb186, 9, none⟩ = some (.int .u16 0) := (blk_cell BK186.out 9).trans rfl; have hfz15_0 := blk_frozen BK186.out 0; have hfz15_1 := blk_frozen BK186.out 1; have hfz15_2 := blk_frozen BK186.out 2; have hfz15_3 := blk_frozen BK186.out 3; have hfz15_4 := blk_frozen BK186.out 4; have hfz15_5 := blk_frozen BK186.out 5; have hfz15_6 := blk_frozen BK186.out 6; have hfz15_7 := blk_frozen BK186.out 7; have hfz15_8 := blk_frozen BK186.out 8; have hfz15_9 := blk_frozen BK186.out 9; have p187 : 0 ≤ (328 : Int) := (by omega); have q187 : 328 < (l0.length : Int) := of_decide_eq_true (by first | (with_reducible assumption) | assumption); obtain ⟨ad187, e187, hx187_0⟩ := Kd.at_int HR0.out 328 p187 q187; obtain rfl : ad174 = ad187 := (by injection e187); (try simp only [show (328 : Int).toNat = 328 from rfl, Nat.reduceMul, Nat.reduceEqDiff, Go.Addr.add, ↓reduceIte] at hx187_0); have qi187 : (328 < l0.length) = True := eq_true (by omega); (try rw [show ((328 : Int)).toNat = 328 from rfl] at hx187_0); have hn187_0 : ad174.block ≠ gb186 := Nat.ne_of_lt (Nat.lt_of_lt_of_le (by have := World.block_lt_of_cell? _ _ hx187_0; first | rwa [add_block] at this | exact this) GW186.out); have hn187_1 : ad174.block ≠ gb186 := Nat.ne_of_lt (Nat.lt_of_lt_of_le (by have := World.block_lt_of_cell? _ _ hx187_0; first | rwa [add_block] at this | exact this) GW186.out); have hn187_2 : ad174.block ≠ gb186 := Nat.ne_of_lt (Nat.lt_of_lt_of_le (by have := World.block_lt_of_cell? _ _ hx187_0; first | rwa [add_block] at this | exact this) GW186.out); have hn187_3 : ad174.block ≠ gb186 := Nat.ne_of_lt (Nat.lt_of_lt_of_le (by have := World.block_lt_of_cell? _ _ hx187_0; first | rwa [add_block] at this | exact this) GW186.out); have hn187_4 : ad174.block ≠ gb186 := Nat.ne_of_lt (Nat.lt_of_lt_of_le (by have := World.block_lt_of_cell? _ _ hx187_0; first | rwa [add_block] at this | exact this) GW186.out); have hn187_5 : ad174.block ≠ gb186 := Nat.ne_of_lt (Nat.lt_of_lt_of_le (by have := World.block_lt_of_cell? _ _ hx187_0; first | rwa [add_block] at this | exact this) GW186.out); have hn187_6 : ad174.block ≠ gb186 := Nat.ne_of_lt (Nat.lt_of_lt_of_le (by have := World.block_lt_of_cell? _ _ hx187_0; first | rwa [add_block] at this | exact this) GW186.out); have hn187_7 : ad174.block ≠ gb186 := Nat.ne_of_lt (Nat.lt_of_lt_of_le (by have := World.block_lt_of_cell? _ _ hx187_0; first | rwa [add_block] at this | exact this) GW186.out); have hn187_8 : ad174.block ≠ gb186 := Nat.ne_of_lt (Nat.lt_of_lt_of_le (by have := World.block_lt_of_cell? _ _ hx187_0; first | rwa [add_block] at this | exact this) GW186.out); have hn187_9 : ad174.block ≠ gb186 := Nat.ne_of_lt (Nat.lt_of_lt_of_le (by have := World.block_lt_of_cell? _ _ hx187_0; first | rwa [add_block] at this | exact this) GW186.out); replace hx187_0 := (HB.out.cell (World.block_lt_of_cell? w _ hx187_0)).trans hx187_0; replace hx187_0 := (cell_far (p := ⟨gb186, 0, none⟩) (by first | (rw [add_block]; exact hn187_0) | (show (Addr.add _ _).block ≠ _; rw [add_block]; exact hn187_0) | exact hn187_0) (.string t175)).trans hx187_0; replace hx187_0 := (cell_far (p := ⟨gb186, 1, none⟩) (by first | (rw [add_block]; exact hn187_1) | (show (Addr.add _ _).block ≠ _; rw [add_block]; exact hn187_1) | exact hn187_1) (.int .u8 t176)).trans hx187_0; replace hx187_0 := (cell_far (p := ⟨gb186, 2, none⟩) (by first | (rw [add_block]; exact hn187_2) | (show (Addr.add _ _).block ≠ _; rw [add_block]; exact hn187_2) | exact hn187_2) (.int .i64 t177)).trans hx187_0; replace hx187_0 := (cell_far (p := ⟨gb186, 3, none⟩) (by first | (rw [add_block]; exact hn187_3) | (show (Addr.add _ _).block ≠ _; rw [add_block]; exact hn187_3) | exact hn187_3) (.bool t178)).trans hx187_0; replace hx187_0 := (cell_far (p := ⟨gb186, 4, none⟩) (by first | (rw [add_block]; exact hn187_4) | (show (Addr.add _ _).block ≠ _; rw [add_block]; exact hn187_4) | exact hn187_4) (.bool t179)).trans hx187_0; replace hx187_0 := (cell_far (p := ⟨gb186, 5, none⟩) (by first | (rw [add_block]; exact hn187_5) | (show (Addr.add _ _).block ≠ _; rw [add_block]; exact hn187_5) | exact hn187_5) (.bool t180)).trans hx187_0; replace hx187_0 := (cell_far (p := ⟨gb186, 6, none⟩) (by first | (rw [add_block]; exact hn187_6) | (show (Addr.add _ _).block ≠ _; rw [add_block]; exact hn187_6) | exact hn187_6) (.int .i64 t181)).trans hx187_0; replace hx187_0 := (cell_far (p := ⟨gb186, 7, none⟩) (by first | (rw [add_block]; exact hn187_7) | (show (Addr.add _ _).block ≠ _; rw [add_block]; exact hn187_7) | exact hn187_7) (.int .i64 t182)).trans hx187_0; replace hx187_0 := (cell_far (p := ⟨gb186, 8, none⟩) (by first | (rw [add_block]; exact hn187_8) | (show (Addr.add _ _).block ≠ _; rw [add_block]; exact hn187_8) | exact hn187_8) (.int .u8 t183)).trans hx187_0; replace hx187_0 := (cell_far (p := ⟨gb186, 9, none⟩) (by first | (rw [add_block]; exact hn187_9) | (show (Addr.add _ _).block ≠ _; rw [add_block]; exact hn187_9) | exact hn187_9) (.int .u16 t184)).trans hx187_0; clear hn187_0; clear hn187_1; clear hn187_2; clear hn187_3; clear hn187_4; clear hn187_5; clear hn187_6; clear hn187_7; clear hn187_8; clear hn187_9; replace p187 := eq_true p187; replace q187 := eq_true q187; have p188 : 0 ≤ (329 : Int) := (by omega); have q188 : 329 < (l0.length : Int) := of_decide_eq_true (by first | (with_reducible assumption) | assumption); obtain ⟨ad188, e188, hx188_0⟩ := Kd.at_int HR0.out 329 p188 q188; obtain rfl : ad174 = ad188 := (by injection e188); (try simp only [show (329 : Int).toNat = 329 from rfl, Nat.reduceMul, Nat.reduceEqDiff, Go.Addr.add, ↓reduceIte] at hx188_0); have qi188 : (329 < l0.length) = True := eq_true (by omega); (try rw [show ((329 : Int)).toNat = 329 from rfl] at hx188_0); have hn188_0 : ad174.block ≠ gb186 := Nat.ne_of_lt (Nat.lt_of_lt_of_le (by have := World.block_lt_of_cell? _ _ hx188_0; first | rwa [add_block] at this | exact this) GW186.out); have hn188_1 : ad174.block ≠ gb186 := Nat.ne_of_lt (Nat.lt_of_lt_of_le (by have := World.block_lt_of_cell? _ _ hx188_0; first | rwa [add_block] at this | exact this) GW186.out); have hn188_2 : ad174.block ≠ gb186 := Nat.ne_of_lt (Nat.lt_of_lt_of_le (by have := World.block_lt_of_cell? _ _ hx188_0; first | rwa [add_block] at this | exact this) GW186.out); have hn188_3 : ad174.block ≠ gb186 := Nat.ne_of_lt (Nat.lt_of_lt_of_le (by have := World.block_lt_of_cell? _ _ hx188_0; first | rwa [add_block] at this | exact this) GW186.out); have hn188_4 : ad174.block ≠ gb186 := Nat.ne_of_lt (Nat.lt_of_lt_of_le (by have := World.block_lt_of_cell? _ _ hx188_0; first | rwa [add_block] at this | exact this) GW186.out); have hn188_5 : ad174.block ≠ gb186 := Nat.ne_of_lt (Nat.lt_of_lt_of_le (by have := World.block_lt_of_cell? _ _ hx188_0; first | rwa [add_block] at this | exact this) GW186.out); have hn188_6 : ad174.block ≠ gb186 := Nat.ne_of_lt (Nat.lt_of_lt_of_le (by have := World.block_lt_of_cell? _ _ hx188_0; first | rwa [add_block] at this | exact this) GW186.out); have hn188_7 : ad174.block ≠ gb186 := Nat.ne_of_lt (Nat.lt_of_lt_of_le (by have := World.block_lt_of_cell? _ _ hx188_0; first | rwa [add_block] at this | exact this) GW186.out); have hn188_8 : ad174.block ≠ gb186 := Nat.ne_of_lt (Nat.lt_of_lt_of_le (by have := World.block_lt_of_cell? _ _ hx188_0; first | rwa [add_block] at this | exact this) GW186.out); have hn188_9 : ad174.block ≠ gb186 := Nat.ne_of_lt (Nat.lt_of_lt_of_le (by have := World.block_lt_of_cell? _ _ hx188_0; first | rwa [add_block] at this | exact this) GW186.out); replace hx188_0 := (HB.out.cell (World.block_lt_of_cell? w _ hx188_0)).trans hx188_0; replace hx188_0 := (cell_far (p := ⟨gb186, 0, none⟩) (by first | (rw [add_block]; exact hn188_0) | (show (Addr.add _ _).block ≠ _; rw [add_block]; exact hn188_0) | exact hn188_0) (.string t175)).trans hx188_0; replace hx188_0 := (cell_far (p := ⟨gb186, 1, none⟩) (by first | (rw [add_block]; exact hn188_1) | (show (Addr.add _ _).block ≠ _; rw [add_block]; exact hn188_1) | exact hn188_1) (.int .u8 t176)).trans hx188_0; replace hx188_0 := (cell_far (p := ⟨gb186, 2, none⟩) (by first | (rw [add_block]; exact hn188_2) | (show (Addr.add _ _).block ≠ _; rw [add_block]; exact hn188_2) | exact hn188_2) (.int .i64 t177)).trans hx188_0; replace hx188_0 := (cell_far (p := ⟨gb186, 3, none⟩) (by first | (rw [add_block]; exact hn188_3) | (show (Addr.add _ _).block ≠ _; rw [add_block]; exact hn188_3) | exact hn188_3) (.bool t178)).trans hx188_0; replace hx188_0 := (cell_far (p := ⟨gb186, 4, none⟩) (by first | (rw [add_block]; exact hn188_4) | (show (Addr.add _ _).block ≠ _; rw [add_block]; exact hn188_4) | exact hn188_4) (.bool t179)).trans hx188_0; replace hx188_0 := (cell_far (p := ⟨gb186, 5, none⟩) (by first | (rw [add_block]; exact hn188_5) | (show (Addr.add _ _).block ≠ _; rw [add_block]; exact hn188_5) | exact hn188_5) (.bool t180)).trans hx188_0; replace hx188_0 := (cell_far (p := ⟨gb186, 6, none⟩) (by first | (rw [add_block]; exact hn188_6) | (show (Addr.add _ _).block ≠ _; rw [add_block]; exact hn188_6) | exact hn188_6) (.int .i64 t181)).trans hx188_0; replace hx188_0 := (cell_far (p := ⟨gb186, 7, none⟩) (by first | (rw [add_block]; exact hn188_7) | (show (Addr.add _ _).block ≠ _; rw [add_block]; exact hn188_7) | exact hn188_7) (.int .i64 t182)).trans hx188_0; replace hx188_0 := (cell_far (p := ⟨gb186, 8, none⟩) (by first | (rw [add_block]; exact hn188_8) | (show (Addr.add _ _).block ≠ _; rw [add_block]; exact hn188_8) | exact hn188_8) (.int .u8 t183)).trans hx188_0; replace hx188_0 := (cell_far (p := ⟨gb186, 9, none⟩) (by first | (rw [add_block]; exact hn188_9) | (show (Addr.add _ _).block ≠ _; rw [add_block]; exact hn188_9) | exact hn188_9) (.int .u16 t184)).trans hx188_0; clear hn188_0; clear hn188_1; clear hn188_2; clear hn188_3; clear hn188_4; clear hn188_5; clear hn188_6; clear hn188_7; clear hn188_8; clear hn188_9; replace p188 := eq_true p188; replace q188 := eq_true q188))
            (try simp only [Act.put, List.setIfInBounds_toArray, List.set_cons_zero, List.set_cons_succ])
            go_cut [44] (fun v44 wc => ∃ (kq : Nat) (x44_9 : Bool), v44 = .bool x44_9 ∧ Aside0 (whirligigref07_Parse.j0 kq l0 (rd l0 328) (rd l0 329) x44_9 t175 t176 t177 t178 t179 t180 t181 t182 t183 t184 = some (r1, r2, r3, r4, r5, r6, r7, r8, r9, r10, r11)) ∧ Aside0 (kq ≤ k) ∧ Aside0 (wc.heap[gb173]? = some (.cells #[.string (⟨#[]⟩ : ByteArray), .int .u8 0, .int .i64 0, .bool false, .bool false, .bool false, .int .i64 0, .int .i64 0, .int .u8 0, .int .u16 0] 26 (0, 0))) ∧ Aside0 (wc.heap[gb186]? = some (.cells #[.string t175, .int .u8 t176, .int .i64 t177, .bool t178, .bool t179, .bool t180, .int .i64 t181, .int .i64 t182, .int .u8 t183, .int .u16 t184] 26 (0, 0))) ∧ Aside0 (Below w.heap.size w wc))
            case first =>
              have H := HC10.out
              clear HC10
              by_cases c16 : (rd l0 328) > 8
              · rw [if_pos c16] at H
                have c16b0 : decide (8 < (rd l0 328)) = true := decide_eq_true c16
                clear c16
                (first | rw [c16b0] | (simp only [i64_w, i32_w]; rw [c16b0]) | skip)
                have H' := Aside0.mk H
                clear H
                go_wp2
                go_meet
                case rel => exact ⟨_, (true), (by first | rfl | (simp; done) | (simp [*]; done)), H', ⟨by first | omega | exact Nat.le_refl _⟩, ⟨by (with_reducible repeat (first | refine blk_drewN ?_ _ | refine blk_drew ?_ | refine blk_alloc ?_ _)); refine blk_far ?_ NB173_186.out _; (with_reducible repeat (first | refine blk_drewN ?_ _ | refine blk_drew ?_ | refine blk_alloc ?_ _)); refine blk_far ?_ NB173_186.out _; (with_reducible repeat (first | refine blk_drewN ?_ _ | refine blk_drew ?_ | refine blk_alloc ?_ _)); refine blk_far ?_ NB173_186.out _; (with_reducible repeat (first | refine blk_drewN ?_ _ | refine blk_drew ?_ | refine blk_alloc ?_ _)); refine blk_far ?_ NB173_186.out _; (with_reducible repeat (first | refine blk_drewN ?_ _ | refine blk_drew ?_ | refine blk_alloc ?_ _)); refine blk_far ?_ NB173_186.out _; (with_reducible repeat (first | refine blk_drewN ?_ _ | refine blk_drew ?_ | refine blk_alloc ?_ _)); refine blk_far ?_ NB173_186.out _; (with_reducible repeat (first | refine blk_drewN ?_ _ | refine blk_drew ?_ | refine blk_alloc ?_ _)); refine blk_far ?_ NB173_186.out _; (with_reducible repeat (first | refine blk_drewN ?_ _ | refine blk_drew ?_ | refine blk_alloc ?_ _)); refine blk_far ?_ NB173_186.out _; (with_reducible repeat (first | refine blk_drewN ?_ _ | refine blk_drew ?_ | refine blk_alloc ?_ _)); refine blk_far ?_ NB173_186.out _; (with_reducible repeat (first | refine blk_drewN ?_ _ | refine blk_drew ?_ | refine blk_alloc ?_ _)); refine blk_far ?_ NB173_186.out _; (with_reducible repeat (first | refine blk_drewN ?_ _ | refine blk_drew ?_ | refine blk_alloc ?_ _)); exact BK173.out⟩, ⟨by (with_reducible repeat (first | refine blk_drewN ?_ _ | refine blk_drew ?_ | refine blk_alloc ?_ _)); refine blk_put (cs := #[.string t175, .int .u8 t176, .int .i64 t177, .bool t178, .bool t179, .bool t180, .int .i64 t181, .int .i64 t182, .int .u8 t183, .int .u16 0]) ?_ 9 _ rfl; (with_reducible repeat (first | refine blk_drewN ?_ _ | refine blk_drew ?_ | refine blk_alloc ?_ _)); refine blk_put (cs := #[.string t175, .int .u8 t176, .int .i64 t177, .bool t178, .bool t179, .bool t180, .int .i64 t181, .int .i64 t182, .int .u8 0, .int .u16 0]) ?_ 8 _ rfl; (with_reducible repeat (first | refine blk_drewN ?_ _ | refine blk_drew ?_ | refine blk_alloc ?_ _)); refine blk_put (cs := #[.string t175, .int .u8 t176, .int .i64 t177, .bool t178, .bool t179, .bool t180, .int .i64 t181, .int .i64 0, .int .u8 0, .int .u16 0]) ?_ 7 _ rfl; (with_reducible repeat (first | refine blk_drewN ?_ _ | refine blk_drew ?_ | refine blk_alloc ?_ _)); refine blk_put (cs := #[.string t175, .int .u8 t176, .int .i64 t177, .bool t178, .bool t179, .bool t180, .int .i64 0, .int .i64 0, .int .u8 0, .int .u16 0]) ?_ 6 _ rfl; (with_reducible repeat (first | refine blk_drewN ?_ _ | refine blk_drew ?_ | refine blk_alloc ?_ _)); refine blk_put (cs := #[.string t175, .int .u8 t176, .int .i64 t177, .bool t178, .bool t179, .bool false, .int .i64 0, .int .i64 0, .int .u8 0, .int .u16 0]) ?_ 5 _ rfl; (with_reducible repeat (first | refine blk_drewN ?_ _ | refine blk_drew ?_ | refine blk_alloc ?_ _)); refine blk_put (cs := #[.string t175, .int .u8 t176, .int .i64 t177, .bool t178, .bool false, .bool false, .int .i64 0, .int .i64 0, .int .u8 0, .int .u16 0]) ?_ 4 _ rfl; (with_reducible repeat (first | refine blk_drewN ?_ _ | refine blk_drew ?_ | refine blk_alloc ?_ _)); refine blk_put (cs := #[.string t175, .int .u8 t176, .int .i64 t177, .bool false, .bool false, .bool false, .int .i64 0, .int .i64 0, .int .u8 0, .int .u16 0]) ?_ 3 _ rfl; (with_reducible repeat (first | refine blk_drewN ?_ _ | refine blk_drew ?_ | refine blk_alloc ?_ _)); refine blk_put (cs := #[.string t175, .int .u8 t176, .int .i64 0, .bool false, .bool false, .bool false, .int .i64 0, .int .i64 0, .int .u8 0, .int .u16 0]) ?_ 2 _ rfl; (with_reducible repeat (first | refine blk_drewN ?_ _ | refine blk_drew ?_ | refine blk_alloc ?_ _)); refine blk_put (cs := #[.string t175, .int .u8 0, .int .i64 0, .bool false, .bool false, .bool false, .int .i64 0, .int .i64 0, .int .u8 0, .int .u16 0]) ?_ 1 _ rfl; (with_reducible repeat (first | refine blk_drewN ?_ _ | refine blk_drew ?_ | refine blk_alloc ?_ _)); refine blk_put (cs := #[.string (⟨#[]⟩ : ByteArray), .int .u8 0, .int .i64 0, .bool false, .bool false, .bool false, .int .i64 0, .int .i64 0, .int .u8 0, .int .u16 0]) ?_ 0 _ rfl; (with_reducible repeat (first | refine blk_drewN ?_ _ | refine blk_drew ?_ | refine blk_alloc ?_ _)); exact BK186.out⟩, ⟨by repeat (first | (with_reducible first | exact HB.out | apply below_alloc | apply pw_below_drewN | apply below_drew1 | refine below_set ?_ GE173.out | refine below_set ?_ GE186.out) | exact HB.out)⟩⟩
              · rw [if_neg c16] at H
                have c16b0 : decide (8 < (rd l0 328)) = false := decide_eq_false c16
                clear c16
                (first | rw [c16b0] | (simp only [i64_w, i32_w]; rw [c16b0]) | skip)
                by_cases c17 : (rd l0 329) > 5
                · rw [if_pos c17] at H
                  have c17b0 : decide (5 < (rd l0 329)) = true := decide_eq_true c17
                  clear c17
                  have H' := Aside0.mk H
                  clear H
                  go_wp2
                  go_meet
                  case rel => exact ⟨_, (true), (by first | rfl | (simp; done) | (simp [*]; done)), H', ⟨by first | omega | exact Nat.le_refl _⟩, ⟨by (with_reducible repeat (first | refine blk_drewN ?_ _ | refine blk_drew ?_ | refine blk_alloc ?_ _)); refine blk_far ?_ NB173_186.out _; (with_reducible repeat (first | refine blk_drewN ?_ _ | refine blk_drew ?_ | refine blk_alloc ?_ _)); refine blk_far ?_ NB173_186.out _; (with_reducible repeat (first | refine blk_drewN ?_ _ | refine blk_drew ?_ | refine blk_alloc ?_ _)); refine blk_far ?_ NB173_186.out _; (with_reducible repeat (first | refine blk_drewN ?_ _ | refine blk_drew ?_ | refine blk_alloc ?_ _)); refine blk_far ?_ NB173_186.out _; (with_reducible repeat (first | refine blk_drewN ?_ _ | refine blk_drew ?_ | refine blk_alloc ?_ _)); refine blk_far ?_ NB173_186.out _; (with_reducible repeat (first | refine blk_drewN ?_ _ | refine blk_drew ?_ | refine blk_alloc ?_ _)); refine blk_far ?_ NB173_186.out _; (with_reducible repeat (first | refine blk_drewN ?_ _ | refine blk_drew ?_ | refine blk_alloc ?_ _)); refine blk_far ?_ NB173_186.out _; (with_reducible repeat (first | refine blk_drewN ?_ _ | refine blk_drew ?_ | refine blk_alloc ?_ _)); refine blk_far ?_ NB173_186.out _; (with_reducible repeat (first | refine blk_drewN ?_ _ | refine blk_drew ?_ | refine blk_alloc ?_ _)); refine blk_far ?_ NB173_186.out _; (with_reducible repeat (first | refine blk_drewN ?_ _ | refine blk_drew ?_ | refine blk_alloc ?_ _)); refine blk_far ?_ NB173_186.out _; (with_reducible repeat (first | refine blk_drewN ?_ _ | refine blk_drew ?_ | refine blk_alloc ?_ _)); exact BK173.out⟩, ⟨by (with_reducible repeat (first | refine blk_drewN ?_ _ | refine blk_drew ?_ | refine blk_alloc ?_ _)); refine blk_put (cs := #[.string t175, .int .u8 t176, .int .i64 t177, .bool t178, .bool t179, .bool t180, .int .i64 t181, .int .i64 t182, .int .u8 t183, .int .u16 0]) ?_ 9 _ rfl; (with_reducible repeat (first | refine blk_drewN ?_ _ | refine blk_drew ?_ | refine blk_alloc ?_ _)); refine blk_put (cs := #[.string t175, .int .u8 t176, .int .i64 t177, .bool t178, .bool t179, .bool t180, .int .i64 t181, .int .i64 t182, .int .u8 0, .int .u16 0]) ?_ 8 _ rfl; (with_reducible repeat (first | refine blk_drewN ?_ _ | refine blk_drew ?_ | refine blk_alloc ?_ _)); refine blk_put (cs := #[.string t175, .int .u8 t176, .int .i64 t177, .bool t178, .bool t179, .bool t180, .int .i64 t181, .int .i64 0, .int .u8 0, .int .u16 0]) ?_ 7 _ rfl; (with_reducible repeat (first | refine blk_drewN ?_ _ | refine blk_drew ?_ | refine blk_alloc ?_ _)); refine blk_put (cs := #[.string t175, .int .u8 t176, .int .i64 t177, .bool t178, .bool t179, .bool t180, .int .i64 0, .int .i64 0, .int .u8 0, .int .u16 0]) ?_ 6 _ rfl; (with_reducible repeat (first | refine blk_drewN ?_ _ | refine blk_drew ?_ | refine blk_alloc ?_ _)); refine blk_put (cs := #[.string t175, .int .u8 t176, .int .i64 t177, .bool t178, .bool t179, .bool false, .int .i64 0, .int .i64 0, .int .u8 0, .int .u16 0]) ?_ 5 _ rfl; (with_reducible repeat (first | refine blk_drewN ?_ _ | refine blk_drew ?_ | refine blk_alloc ?_ _)); refine blk_put (cs := #[.string t175, .int .u8 t176, .int .i64 t177, .bool t178, .bool false, .bool false, .int .i64 0, .int .i64 0, .int .u8 0, .int .u16 0]) ?_ 4 _ rfl; (with_reducible repeat (first | refine blk_drewN ?_ _ | refine blk_drew ?_ | refine blk_alloc ?_ _)); refine blk_put (cs := #[.string t175, .int .u8 t176, .int .i64 t177, .bool false, .bool false, .bool false, .int .i64 0, .int .i64 0, .int .u8 0, .int .u16 0]) ?_ 3 _ rfl; (with_reducible repeat (first | refine blk_drewN ?_ _ | refine blk_drew ?_ | refine blk_alloc ?_ _)); refine blk_put (cs := #[.string t175, .int .u8 t176, .int .i64 0, .bool false, .bool false, .bool false, .int .i64 0, .int .i64 0, .int .u8 0, .int .u16 0]) ?_ 2 _ rfl; (with_reducible repeat (first | refine blk_drewN ?_ _ | refine blk_drew ?_ | refine blk_alloc ?_ _)); refine blk_put (cs := #[.string t175, .int .u8 0, .int .i64 0, .bool false, .bool false, .bool false, .int .i64 0, .int .i64 0, .int .u8 0, .int .u16 0]) ?_ 1 _ rfl; (with_reducible repeat (first | refine blk_drewN ?_ _ | refine blk_drew ?_ | refine blk_alloc ?_ _)); refine blk_put (cs := #[.string (⟨#[]⟩ : ByteArray), .int .u8 0, .int .i64 0, .bool false, .bool false, .bool false, .int .i64 0, .int .i64 0, .int .u8 0, .int .u16 0]) ?_ 0 _ rfl; (with_reducible repeat (first | refine blk_drewN ?_ _ | refine blk_drew ?_ | refine blk_alloc ?_ _)); exact BK186.out⟩, ⟨by repeat (first | (with_reducible first | exact HB.out | apply below_alloc | apply pw_below_drewN | apply below_drew1 | refine below_set ?_ GE173.out | refine below_set ?_ GE186.out) | exact HB.out)⟩⟩
                · rw [if_neg c17] at H
                  have c17b0 : decide (5 < (rd l0 329)) = false := decide_eq_false c17
                  clear c17
                  replace H := Option.bind_eq_some_iff.mp H
                  obtain ⟨t189, A180, H⟩ := H
                  replace H : (whirligigref07_Parse.j0 k l0 (rd l0 328) (rd l0 329) (decide ((l0.length : Int) > t189)) t175 t176 t177 t178 t179 t180 t181 t182 t183 t184) = some (r1, r2, r3, r4, r5, r6, r7, r8, r9, r10, r11) := H
                  have A18 := Aside0.mk A180
                  clear A180
                  have H' := Aside0.mk H
                  clear H
                  go_wp2_with (first | (go_at_call 26; (with_reducible refine (whirligigref07_Most.calls k (rd l0 328) t189 _ A18.out).mono ?_); rintro e w' ⟨rfl, ⟨nd, rfl⟩⟩))
                  go_meet
                  case rel => exact ⟨_, (decide ((l0.length : Int) > t189)), (by first | rfl | (simp; done) | (simp [*]; done)), H', ⟨by first | omega | exact Nat.le_refl _⟩, ⟨by (with_reducible repeat (first | refine blk_drewN ?_ _ | refine blk_drew ?_ | refine blk_alloc ?_ _)); refine blk_far ?_ NB173_186.out _; (with_reducible repeat (first | refine blk_drewN ?_ _ | refine blk_drew ?_ | refine blk_alloc ?_ _)); refine blk_far ?_ NB173_186.out _; (with_reducible repeat (first | refine blk_drewN ?_ _ | refine blk_drew ?_ | refine blk_alloc ?_ _)); refine blk_far ?_ NB173_186.out _; (with_reducible repeat (first | refine blk_drewN ?_ _ | refine blk_drew ?_ | refine blk_alloc ?_ _)); refine blk_far ?_ NB173_186.out _; (with_reducible repeat (first | refine blk_drewN ?_ _ | refine blk_drew ?_ | refine blk_alloc ?_ _)); refine blk_far ?_ NB173_186.out _; (with_reducible repeat (first | refine blk_drewN ?_ _ | refine blk_drew ?_ | refine blk_alloc ?_ _)); refine blk_far ?_ NB173_186.out _; (with_reducible repeat (first | refine blk_drewN ?_ _ | refine blk_drew ?_ | refine blk_alloc ?_ _)); refine blk_far ?_ NB173_186.out _; (with_reducible repeat (first | refine blk_drewN ?_ _ | refine blk_drew ?_ | refine blk_alloc ?_ _)); refine blk_far ?_ NB173_186.out _; (with_reducible repeat (first | refine blk_drewN ?_ _ | refine blk_drew ?_ | refine blk_alloc ?_ _)); refine blk_far ?_ NB173_186.out _; (with_reducible repeat (first | refine blk_drewN ?_ _ | refine blk_drew ?_ | refine blk_alloc ?_ _)); refine blk_far ?_ NB173_186.out _; (with_reducible repeat (first | refine blk_drewN ?_ _ | refine blk_drew ?_ | refine blk_alloc ?_ _)); exact BK173.out⟩, ⟨by (with_reducible repeat (first | refine blk_drewN ?_ _ | refine blk_drew ?_ | refine blk_alloc ?_ _)); refine blk_put (cs := #[.string t175, .int .u8 t176, .int .i64 t177, .bool t178, .bool t179, .bool t180, .int .i64 t181, .int .i64 t182, .int .u8 t183, .int .u16 0]) ?_ 9 _ rfl; (with_reducible repeat (first | refine blk_drewN ?_ _ | refine blk_drew ?_ | refine blk_alloc ?_ _)); refine blk_put (cs := #[.string t175, .int .u8 t176, .int .i64 t177, .bool t178, .bool t179, .bool t180, .int .i64 t181, .int .i64 t182, .int .u8 0, .int .u16 0]) ?_ 8 _ rfl; (with_reducible repeat (first | refine blk_drewN ?_ _ | refine blk_drew ?_ | refine blk_alloc ?_ _)); refine blk_put (cs := #[.string t175, .int .u8 t176, .int .i64 t177, .bool t178, .bool t179, .bool t180, .int .i64 t181, .int .i64 0, .int .u8 0, .int .u16 0]) ?_ 7 _ rfl; (with_reducible repeat (first | refine blk_drewN ?_ _ | refine blk_drew ?_ | refine blk_alloc ?_ _)); refine blk_put (cs := #[.string t175, .int .u8 t176, .int .i64 t177, .bool t178, .bool t179, .bool t180, .int .i64 0, .int .i64 0, .int .u8 0, .int .u16 0]) ?_ 6 _ rfl; (with_reducible repeat (first | refine blk_drewN ?_ _ | refine blk_drew ?_ | refine blk_alloc ?_ _)); refine blk_put (cs := #[.string t175, .int .u8 t176, .int .i64 t177, .bool t178, .bool t179, .bool false, .int .i64 0, .int .i64 0, .int .u8 0, .int .u16 0]) ?_ 5 _ rfl; (with_reducible repeat (first | refine blk_drewN ?_ _ | refine blk_drew ?_ | refine blk_alloc ?_ _)); refine blk_put (cs := #[.string t175, .int .u8 t176, .int .i64 t177, .bool t178, .bool false, .bool false, .int .i64 0, .int .i64 0, .int .u8 0, .int .u16 0]) ?_ 4 _ rfl; (with_reducible repeat (first | refine blk_drewN ?_ _ | refine blk_drew ?_ | refine blk_alloc ?_ _)); refine blk_put (cs := #[.string t175, .int .u8 t176, .int .i64 t177, .bool false, .bool false, .bool false, .int .i64 0, .int .i64 0, .int .u8 0, .int .u16 0]) ?_ 3 _ rfl; (with_reducible repeat (first | refine blk_drewN ?_ _ | refine blk_drew ?_ | refine blk_alloc ?_ _)); refine blk_put (cs := #[.string t175, .int .u8 t176, .int .i64 0, .bool false, .bool false, .bool false, .int .i64 0, .int .i64 0, .int .u8 0, .int .u16 0]) ?_ 2 _ rfl; (with_reducible repeat (first | refine blk_drewN ?_ _ | refine blk_drew ?_ | refine blk_alloc ?_ _)); refine blk_put (cs := #[.string t175, .int .u8 0, .int .i64 0, .bool false, .bool false, .bool false, .int .i64 0, .int .i64 0, .int .u8 0, .int .u16 0]) ?_ 1 _ rfl; (with_reducible repeat (first | refine blk_drewN ?_ _ | refine blk_drew ?_ | refine blk_alloc ?_ _)); refine blk_put (cs := #[.string (⟨#[]⟩ : ByteArray), .int .u8 0, .int .i64 0, .bool false, .bool false, .bool false, .int .i64 0, .int .i64 0, .int .u8 0, .int .u16 0]) ?_ 0 _ rfl; (with_reducible repeat (first | refine blk_drewN ?_ _ | refine blk_drew ?_ | refine blk_alloc ?_ _)); exact BK186.out⟩, ⟨by repeat (first | (with_reducible first | exact HB.out | apply below_alloc | apply pw_below_drewN | apply below_drew1 | refine below_set ?_ GE173.out | refine below_set ?_ GE186.out) | exact HB.out)⟩⟩
            case rest =>
              clear HC10
              try clear c1
              try clear p1
              try clear q1
              try clear hx1
              try clear qi1
              try clear c2
              try clear c2b0
              try clear c2b1
              try clear p2
              try clear c5
              try clear c5b0
              try clear c5b1
              try clear c7
              try clear c8
              try clear c8b0
              try clear c8b1
              try clear c9
              try clear c9b0
              try clear c9b1
              try clear c11
              try clear c14
              try clear c16
              try clear c16b0
              try clear c17
              try clear c17b0
              try clear p17
              try clear q17
              try clear hx17
              try clear qi17
              try clear p18
              try clear q18
              try clear hx18
              try clear qi18
              try clear hcz15_0
              try clear hcz15_1
              try clear hcz15_2
              try clear hcz15_3
              try clear hcz15_4
              try clear hcz15_5
              try clear hcz15_6
              try clear hcz15_7
              try clear hcz15_8
              try clear hcz15_9
              try clear hcz4_0
              try clear hcz4_1
              try clear hcz4_2
              try clear hcz4_3
              try clear hcz4_4
              try clear hcz4_5
              try clear hcz4_6
              try clear hcz4_7
              try clear hcz4_8
              try clear hcz4_9
              try clear hfz15_0
              try clear hfz15_1
              try clear hfz15_2
              try clear hfz15_3
              try clear hfz15_4
              try clear hfz15_5
              try clear hfz15_6
              try clear hfz15_7
              try clear hfz15_8
              try clear hfz15_9
              try clear hfz4_0
              try clear hfz4_1
              try clear hfz4_2
              try clear hfz4_3
              try clear hfz4_4
              try clear hfz4_5
              try clear hfz4_6
              try clear hfz4_7
              try clear hfz4_8
              try clear hfz4_9
              try clear hx174_0
              try clear hx187_0
              try clear hx188_0
              try clear p174
              try clear p187
              try clear p188
              try clear q174
              try clear q187
              try clear q188
              obtain ⟨kq, x44_9, rfl, HA, HJ9, BK173, BK186, HB⟩ := hcut
              cases kq with
              | zero => exact absurd HA.out (by simp [whirligigref07_Parse.j0])
              | succ kj9 =>
                have H := HA.out
                clear HA
                simp only [whirligigref07_Parse.j0] at H
                by_cases c19 : x44_9 = true
                · subst c19
                  have H1 : (some ((⟨#[]⟩ : ByteArray), 0, 0, false, false, false, 0, 0, 0, 0, 5)) = some (r1, r2, r3, r4, r5, r6, r7, r8, r9, r10, r11) := by rw [if_pos rfl] at H; exact H
                  clear H
                  have H := H1
                  clear H1
                  simp only [Option.some.injEq, Prod.mk.injEq] at H
                  obtain ⟨rfl, rfl, rfl, rfl, rfl, rfl, rfl, rfl, rfl, rfl, rfl⟩ := H
                  have hnb20 := NB173_186.out
                  have hnc20 := NB186_173.out
                  have hcz21_0 : wc.cell? ⟨gb173, 0, none⟩ = some (.string (⟨#[]⟩ : ByteArray)) := (blk_cell BK173.out 0).trans rfl
                  have hcz21_1 : wc.cell? ⟨gb173, 1, none⟩ = some (.int .u8 0) := (blk_cell BK173.out 1).trans rfl
                  have hcz21_2 : wc.cell? ⟨gb173, 2, none⟩ = some (.int .i64 0) := (blk_cell BK173.out 2).trans rfl
                  have hcz21_3 : wc.cell? ⟨gb173, 3, none⟩ = some (.bool false) := (blk_cell BK173.out 3).trans rfl
                  have hcz21_4 : wc.cell? ⟨gb173, 4, none⟩ = some (.bool false) := (blk_cell BK173.out 4).trans rfl
                  have hcz21_5 : wc.cell? ⟨gb173, 5, none⟩ = some (.bool false) := (blk_cell BK173.out 5).trans rfl
                  have hcz21_6 : wc.cell? ⟨gb173, 6, none⟩ = some (.int .i64 0) := (blk_cell BK173.out 6).trans rfl
                  have hcz21_7 : wc.cell? ⟨gb173, 7, none⟩ = some (.int .i64 0) := (blk_cell BK173.out 7).trans rfl
                  have hcz21_8 : wc.cell? ⟨gb173, 8, none⟩ = some (.int .u8 0) := (blk_cell BK173.out 8).trans rfl
                  have hcz21_9 : wc.cell? ⟨gb173, 9, none⟩ = some (.int .u16 0) := (blk_cell BK173.out 9).trans rfl
                  have hfz21_0 := blk_frozen BK173.out 0
                  have hfz21_1 := blk_frozen BK173.out 1
                  have hfz21_2 := blk_frozen BK173.out 2
                  have hfz21_3 := blk_frozen BK173.out 3
                  have hfz21_4 := blk_frozen BK173.out 4
                  have hfz21_5 := blk_frozen BK173.out 5
                  have hfz21_6 := blk_frozen BK173.out 6
                  have hfz21_7 := blk_frozen BK173.out 7
                  have hfz21_8 := blk_frozen BK173.out 8
                  have hfz21_9 := blk_frozen BK173.out 9
                  go_wp2
                  refine bodyPost_ret (results_ct rfl _ _ gb173 26 #[.string (⟨#[]⟩ : ByteArray), .int .u8 0, .int .i64 0, .bool false, .bool false, .bool false, .int .i64 0, .int .i64 0, .int .u8 0, .int .u16 0] (0, 0) _ rfl (by (with_reducible repeat (first | refine blk_drewN ?_ _ | refine blk_drew ?_ | refine blk_alloc ?_ _)); refine blk_put (cs := #[.string (⟨#[]⟩ : ByteArray), .int .u8 0, .int .i64 0, .bool false, .bool false, .bool false, .int .i64 0, .int .i64 0, .int .u8 0, .int .u16 0]) ?_ 9 _ rfl; (with_reducible repeat (first | refine blk_drewN ?_ _ | refine blk_drew ?_ | refine blk_alloc ?_ _)); refine blk_put (cs := #[.string (⟨#[]⟩ : ByteArray), .int .u8 0, .int .i64 0, .bool false, .bool false, .bool false, .int .i64 0, .int .i64 0, .int .u8 0, .int .u16 0]) ?_ 8 _ rfl; (with_reducible repeat (first | refine blk_drewN ?_ _ | refine blk_drew ?_ | refine blk_alloc ?_ _)); refine blk_put (cs := #[.string (⟨#[]⟩ : ByteArray), .int .u8 0, .int .i64 0, .bool false, .bool false, .bool false, .int .i64 0, .int .i64 0, .int .u8 0, .int .u16 0]) ?_ 7 _ rfl; (with_reducible repeat (first | refine blk_drewN ?_ _ | refine blk_drew ?_ | refine blk_alloc ?_ _)); refine blk_put (cs := #[.string (⟨#[]⟩ : ByteArray), .int .u8 0, .int .i64 0, .bool false, .bool false, .bool false, .int .i64 0, .int .i64 0, .int .u8 0, .int .u16 0]) ?_ 6 _ rfl; (with_reducible repeat (first | refine blk_drewN ?_ _ | refine blk_drew ?_ | refine blk_alloc ?_ _)); refine blk_put (cs := #[.string (⟨#[]⟩ : ByteArray), .int .u8 0, .int .i64 0, .bool false, .bool false, .bool false, .int .i64 0, .int .i64 0, .int .u8 0, .int .u16 0]) ?_ 5 _ rfl; (with_reducible repeat (first | refine blk_drewN ?_ _ | refine blk_drew ?_ | refine blk_alloc ?_ _)); refine blk_put (cs := #[.string (⟨#[]⟩ : ByteArray), .int .u8 0, .int .i64 0, .bool false, .bool false, .bool false, .int .i64 0, .int .i64 0, .int .u8 0, .int .u16 0]) ?_ 4 _ rfl; (with_reducible repeat (first | refine blk_drewN ?_ _ | refine blk_drew ?_ | refine blk_alloc ?_ _)); refine blk_put (cs := #[.string (⟨#[]⟩ : ByteArray), .int .u8 0, .int .i64 0, .bool false, .bool false, .bool false, .int .i64 0, .int .i64 0, .int .u8 0, .int .u16 0]) ?_ 3 _ rfl; (with_reducible repeat (first | refine blk_drewN ?_ _ | refine blk_drew ?_ | refine blk_alloc ?_ _)); refine blk_put (cs := #[.string (⟨#[]⟩ : ByteArray), .int .u8 0, .int .i64 0, .bool false, .bool false, .bool false, .int .i64 0, .int .i64 0, .int .u8 0, .int .u16 0]) ?_ 2 _ rfl; (with_reducible repeat (first | refine blk_drewN ?_ _ | refine blk_drew ?_ | refine blk_alloc ?_ _)); refine blk_put (cs := #[.string (⟨#[]⟩ : ByteArray), .int .u8 0, .int .i64 0, .bool false, .bool false, .bool false, .int .i64 0, .int .i64 0, .int .u8 0, .int .u16 0]) ?_ 1 _ rfl; (with_reducible repeat (first | refine blk_drewN ?_ _ | refine blk_drew ?_ | refine blk_alloc ?_ _)); refine blk_put (cs := #[.string (⟨#[]⟩ : ByteArray), .int .u8 0, .int .i64 0, .bool false, .bool false, .bool false, .int .i64 0, .int .i64 0, .int .u8 0, .int .u16 0]) ?_ 0 _ rfl; (with_reducible repeat (first | refine blk_drewN ?_ _ | refine blk_drew ?_ | refine blk_alloc ?_ _)); exact BK173.out) Try.underlying26 rfl (by kernel_rfl)) rfl ?_
                  exact ⟨by first | rfl | (simp [errW_none, errW_some] <;> rfl) | (simp [*, errW_none, errW_some] <;> rfl), by repeat (first | (with_reducible first | exact HB.out | apply below_alloc | apply pw_below_drewN | apply below_drew1 | refine below_set ?_ GE173.out | refine below_set ?_ GE186.out) | exact HB.out)⟩
                · replace c19 := Bool.eq_false_iff.mpr c19
                  subst c19
                  have H1 : ((whirligigref07_Sum.f kj9 l0).bind fun bt190 => (if 333 < (l0.length : Int) then (if bt190.1 = (rd l0 333) then (whirligigref07_Parse.l0 kj9 l0 (rd l0 328) (rd l0 329) bt190.1 308 t175 t176 t177 t178 t179 t180 t181 t182 t183 t184) else (some ((⟨#[]⟩ : ByteArray), 0, 0, false, false, false, 0, 0, 0, 0, 3))) else (none))) = some (r1, r2, r3, r4, r5, r6, r7, r8, r9, r10, r11) := by rw [if_neg (show ¬ (false = true) by decide)] at H; exact H
                  clear H
                  have H := H1
                  clear H1
                  replace H := Option.bind_eq_some_iff.mp H
                  obtain ⟨⟨t190, t191⟩, A220, H⟩ := H
                  replace H : (if 333 < (l0.length : Int) then (if t190 = (rd l0 333) then (whirligigref07_Parse.l0 kj9 l0 (rd l0 328) (rd l0 329) t190 308 t175 t176 t177 t178 t179 t180 t181 t182 t183 t184) else (some ((⟨#[]⟩ : ByteArray), 0, 0, false, false, false, 0, 0, 0, 0, 3))) else (none)) = some (r1, r2, r3, r4, r5, r6, r7, r8, r9, r10, r11) := H
                  have A22 := Aside0.mk A220
                  clear A220
                  by_cases c23 : 333 < (l0.length : Int)
                  · rw [if_pos c23] at H
                    have c23b0 : decide (333 < (l0.length : Int)) = true := decide_eq_true c23
                    have c23b1 : decide (333 < l0.length) = true := decide_eq_true (by omega)
                    clear c23
                    by_cases c24 : t190 = (rd l0 333)
                    · rw [if_pos c24] at H
                      have c24b0 : (t190 == (rd l0 333)) = true := beq_iff_eq.mpr c24
                      have c24b1 : (t190 != (rd l0 333)) = false := bne_eq_false_iff_eq.mpr c24
                      clear c24
                      have H' := Aside0.mk H
                      clear H
                      go_wp2_with (first | ((with_reducible refine gate_callee (f := 15) rfl ?_); refine goesL_ (some 48) rfl rfl Try.func15 (by kernel_rfl) rfl #[.slice (some ad174) l0.length c0] rfl (by (try simp only [List.map_toArray, List.map_cons, List.map_nil]); first | done | rfl | (simp only [List.length_drop, List.length_take]; rfl)) ?_; (with_reducible refine (whirligigref07_Sum.calls kj9 _ _ l0 t190 t191 _ ?side1 ?side2 A22.out).mono ?_); (case side1 => repeat (first | exact (Kd.C_below HR0.out HB.out) | (with_reducible refine Kd.C_alloc ?_ _) | (with_reducible refine Kd.C_drewN ?_ _) | (with_reducible refine Kd.C_drew ?_))); (case side2 => exact HC0.out); rintro e w' ⟨rfl, ⟨nd, rfl⟩⟩; refine ⟨_, rfl, ?_⟩; have p192 : 0 ≤ (333 : Int) := (by omega); have q192 : 333 < (l0.length : Int) := of_decide_eq_true (by first | (with_reducible assumption) | assumption); obtain ⟨ad192, e192, hx192_0⟩ := Kd.at_int HR0.out 333 p192 q192; obtain rfl : ad174 = ad192 := (by injection e192); (try simp only [show (333 : Int).toNat = 333 from rfl, Nat.reduceMul, Nat.reduceEqDiff, Go.Addr.add, ↓reduceIte] at hx192_0); have qi192 : (333 < l0.length) = True := eq_true (by omega); (try rw [show ((333 : Int)).toNat = 333 from rfl] at hx192_0); replace hx192_0 := (HB.out.cell (World.block_lt_of_cell? w _ hx192_0)).trans hx192_0; replace p192 := eq_true p192; replace q192 := eq_true q192))
                      go_loopg [10] kj9 (fun kq v10 w' => ∃ (x10_2 : Int) (x187000_2 : ByteArray), v10 = .int .i64 x10_2 ∧ Aside0 (whirligigref07_Parse.l0 kq l0 (rd l0 328) (rd l0 329) t190 x10_2 x187000_2 t176 t177 t178 t179 t180 t181 t182 t183 t184 = some (r1, r2, r3, r4, r5, r6, r7, r8, r9, r10, r11)) ∧ Aside0 (kq ≤ kj9) ∧ Aside0 (w'.heap[gb173]? = some (.cells #[.string (⟨#[]⟩ : ByteArray), .int .u8 0, .int .i64 0, .bool false, .bool false, .bool false, .int .i64 0, .int .i64 0, .int .u8 0, .int .u16 0] 26 (0, 0))) ∧ Aside0 (w'.heap[gb186]? = some (.cells #[.string x187000_2, .int .u8 t176, .int .i64 t177, .bool t178, .bool t179, .bool t180, .int .i64 t181, .int .i64 t182, .int .u8 t183, .int .u16 t184] 26 (0, 0))) ∧ Aside0 (Below w.heap.size w w'))
                      case atStart => exact ⟨(308), (t175), (by first | rfl | (simp; done) | (simp [*]; done)), H', ⟨Nat.le_refl _⟩, ⟨by (with_reducible repeat (first | refine blk_drewN ?_ _ | refine blk_drew ?_ | refine blk_alloc ?_ _)); exact BK173.out⟩, ⟨by (with_reducible repeat (first | refine blk_drewN ?_ _ | refine blk_drew ?_ | refine blk_alloc ?_ _)); exact BK186.out⟩, ⟨by repeat (first | (with_reducible first | exact HB.out | apply below_alloc | apply pw_below_drewN | apply below_drew1 | refine below_set ?_ GE173.out | refine below_set ?_ GE186.out) | exact HB.out)⟩⟩
                      case round =>
                        clear H'
                        try clear c1
                        try clear p1
                        try clear q1
                        try clear hx1
                        try clear qi1
                        try clear c2
                        try clear c2b0
                        try clear c2b1
                        try clear p2
                        try clear c5
                        try clear c5b0
                        try clear c5b1
                        try clear c7
                        try clear c8
                        try clear c8b0
                        try clear c8b1
                        try clear c9
                        try clear c9b0
                        try clear c9b1
                        try clear c11
                        try clear c14
                        try clear c15
                        try clear c16
                        try clear c16b0
                        try clear c17
                        try clear c17b0
                        try clear p17
                        try clear q17
                        try clear hx17
                        try clear qi17
                        try clear p18
                        try clear q18
                        try clear hx18
                        try clear qi18
                        try clear c19
                        try clear p19
                        try clear q19
                        try clear hx19
                        try clear qi19
                        try clear c20
                        try clear c23
                        try clear c23b0
                        try clear c23b1
                        try clear c24
                        try clear c24b0
                        try clear c24b1
                        try clear hcz15_0
                        try clear hcz15_1
                        try clear hcz15_2
                        try clear hcz15_3
                        try clear hcz15_4
                        try clear hcz15_5
                        try clear hcz15_6
                        try clear hcz15_7
                        try clear hcz15_8
                        try clear hcz15_9
                        try clear hcz21_0
                        try clear hcz21_1
                        try clear hcz21_2
                        try clear hcz21_3
                        try clear hcz21_4
                        try clear hcz21_5
                        try clear hcz21_6
                        try clear hcz21_7
                        try clear hcz21_8
                        try clear hcz21_9
                        try clear hcz4_0
                        try clear hcz4_1
                        try clear hcz4_2
                        try clear hcz4_3
                        try clear hcz4_4
                        try clear hcz4_5
                        try clear hcz4_6
                        try clear hcz4_7
                        try clear hcz4_8
                        try clear hcz4_9
                        try clear hfz15_0
                        try clear hfz15_1
                        try clear hfz15_2
                        try clear hfz15_3
                        try clear hfz15_4
                        try clear hfz15_5
                        try clear hfz15_6
                        try clear hfz15_7
                        try clear hfz15_8
                        try clear hfz15_9
                        try clear hfz21_0
                        try clear hfz21_1
                        try clear hfz21_2
                        try clear hfz21_3
                        try clear hfz21_4
                        try clear hfz21_5
                        try clear hfz21_6
                        try clear hfz21_7
                        try clear hfz21_8
                        try clear hfz21_9
                        try clear hfz4_0
                        try clear hfz4_1
                        try clear hfz4_2
                        try clear hfz4_3
                        try clear hfz4_4
                        try clear hfz4_5
                        try clear hfz4_6
                        try clear hfz4_7
                        try clear hfz4_8
                        try clear hfz4_9
                        try clear hx174_0
                        try clear hx187_0
                        try clear hx188_0
                        try clear hx192_0
                        try clear p1
                        try clear p17
                        try clear p174
                        try clear p18
                        try clear p187
                        try clear p188
                        try clear p192
                        try clear p2
                        try clear q1
                        try clear q17
                        try clear q174
                        try clear q18
                        try clear q187
                        try clear q188
                        try clear q192
                        obtain ⟨x10_2, x187000_2, rfl, HA, HK2, BK173, BK186, HB⟩ := hrel
                        cases gk with
                        | zero => exact absurd HA.out (by simp [whirligigref07_Parse.l0])
                        | succ k2 =>
                          have H := HA.out
                          clear HA
                          simp only [whirligigref07_Parse.l0] at H
                          by_cases c25 : x10_2 < 324
                          · rw [if_pos c25] at H
                            have c25b0 : decide (x10_2 < 324) = true := decide_eq_true c25
                            clear c25
                            by_cases c26 : 0 ≤ x10_2
                            · rw [if_pos c26] at H
                              have c26b0 : decide (0 ≤ x10_2) = true := decide_eq_true c26
                              clear c26
                              by_cases c27 : x10_2 < (l0.length : Int)
                              · rw [if_pos c27] at H
                                have c27b0 : decide (x10_2 < (l0.length : Int)) = true := decide_eq_true c27
                                clear c27
                                replace H := Option.bind_eq_some_iff.mp H
                                obtain ⟨t194, A280, H⟩ := H
                                replace H : (if t194 = true then ((some (([rd l0 x10_2] : List Int) : List Int)).bind fun y196 => (if x187000_2.size + (strOfNums y196).size ≤ 9223372036854775807 then (whirligigref07_Parse.l0 k2 l0 (rd l0 328) (rd l0 329) t190 (wrap64 (x10_2 + 1)) (x187000_2 ++ (strOfNums y196)) t176 t177 t178 t179 t180 t181 t182 t183 t184) else (none))) else ((whirligigref07_Most.f k2 (rd l0 328)).bind fun t199 => (if t178 = true then ((some (([0, 2048, 8192, 32768, 131072, 65536] : List Int) : List Int)).bind fun y200 => (if 0 ≤ (rd l0 329) then (if (rd l0 329) < (y200.length : Int) then (if 334 < (l0.length : Int) then (if 335 < (l0.length : Int) then (some (x187000_2, t176, t177, t178, t179, t180, wrap64 (Int.tdiv t199 16384), rd y200 (rd l0 329), t190, IntKind.u16.wrap (wrap64 ((wrap64 (256 * (wrap64 (rd l0 334)))) + (wrap64 (rd l0 335)))), 0)) else (none)) else (none)) else (none)) else (none))) else (if 334 < (l0.length : Int) then (if 335 < (l0.length : Int) then (some (x187000_2, t176, t177, t178, t179, t180, wrap64 (Int.tdiv t199 16384), t182, t190, IntKind.u16.wrap (wrap64 ((wrap64 (256 * (wrap64 (rd l0 334)))) + (wrap64 (rd l0 335)))), 0)) else (none)) else (none))))) = some (r1, r2, r3, r4, r5, r6, r7, r8, r9, r10, r11) := H
                                have A28 := Aside0.mk A280
                                clear A280
                                by_cases c29 : t194 = true
                                · subst c29
                                  have H1 : ((some (([rd l0 x10_2] : List Int) : List Int)).bind fun y196 => (if x187000_2.size + (strOfNums y196).size ≤ 9223372036854775807 then (whirligigref07_Parse.l0 k2 l0 (rd l0 328) (rd l0 329) t190 (wrap64 (x10_2 + 1)) (x187000_2 ++ (strOfNums y196)) t176 t177 t178 t179 t180 t181 t182 t183 t184) else (none))) = some (r1, r2, r3, r4, r5, r6, r7, r8, r9, r10, r11) := by rw [if_pos rfl] at H; exact H
                                  clear H
                                  have H := H1
                                  clear H1
                                  obtain ⟨y196, hy196⟩ : ∃ y_ : List Int, y_ = (([rd l0 x10_2] : List Int)) := ⟨_, rfl⟩
                                  replace H : (if x187000_2.size + (strOfNums y196).size ≤ 9223372036854775807 then (whirligigref07_Parse.l0 k2 l0 (rd l0 328) (rd l0 329) t190 (wrap64 (x10_2 + 1)) (x187000_2 ++ (strOfNums y196)) t176 t177 t178 t179 t180 t181 t182 t183 t184) else (none)) = some (r1, r2, r3, r4, r5, r6, r7, r8, r9, r10, r11) := by first | (rw [hy196]; with_reducible exact H) | (have H2_ := (Option.bind_some _ _).symm.trans H; rw [hy196]; with_reducible exact H2_) | (have H2_ := (Option.bind_some _ _).symm.trans H; with_reducible exact H2_) | with_reducible exact H | (rw [hy196]; exact H) | exact H
                                  have Ny196 := Aside0.mk hy196
                                  clear hy196
                                  by_cases c30 : x187000_2.size + (strOfNums y196).size ≤ 9223372036854775807
                                  · rw [if_pos c30] at H
                                    have c30b0 := eq_true c30
                                    have c30b1 : decide (x187000_2.size + (strOfNums y196).size ≤ 9223372036854775807) = true := decide_eq_true c30
                                    try have c30b2 : (9223372036854775807 < x187000_2.size + (strOfNums y196).size) = False := eq_false (Nat.not_lt.2 c30)
                                    have H' := Aside0.mk H
                                    clear H
                                    have p193 : 0 ≤ (x10_2 : Int) := of_decide_eq_true (by first | (with_reducible assumption) | assumption)
                                    have q193 : x10_2 < (l0.length : Int) := of_decide_eq_true (by first | (with_reducible assumption) | assumption)
                                    obtain ⟨ad193, e193, hx193_0⟩ := Kd.at_int HR0.out x10_2 p193 q193
                                    obtain rfl : ad174 = ad193 := (by injection e193)
                                    replace hx193_0 := (HB.out.cell (World.block_lt_of_cell? w _ hx193_0)).trans hx193_0
                                    replace p193 := eq_true p193
                                    replace q193 := eq_true q193
                                    try go_wp2_with (first | (go_at_call 27; (with_reducible refine (whirligigref07_signs.calls (rd l0 x10_2) true _ A28.out).mono ?_); rintro e w' ⟨rfl, ⟨nd, rfl⟩⟩; (try (rw [drewN_self wr]; generalize hq_ : World.drewN wr _ = wr; have n0_ : Aside0 (wr.heap[gb173]? = some (.cells #[.string (⟨#[]⟩ : ByteArray), .int .u8 0, .int .i64 0, .bool false, .bool false, .bool false, .int .i64 0, .int .i64 0, .int .u8 0, .int .u16 0] 26 (0, 0))) := ⟨by rw [← hq_]; exact (by (with_reducible repeat (first | refine blk_drewN ?_ _ | refine blk_drew ?_ | refine blk_alloc ?_ _)); exact BK173.out)⟩; have n1_ : Aside0 (wr.heap[gb186]? = some (.cells #[.string x187000_2, .int .u8 t176, .int .i64 t177, .bool t178, .bool t179, .bool t180, .int .i64 t181, .int .i64 t182, .int .u8 t183, .int .u16 t184] 26 (0, 0))) := ⟨by rw [← hq_]; exact (by (with_reducible repeat (first | refine blk_drewN ?_ _ | refine blk_drew ?_ | refine blk_alloc ?_ _)); exact BK186.out)⟩; have n2_ : Aside0 (Below w.heap.size w wr) := ⟨by rw [← hq_]; exact (by repeat (first | (with_reducible first | exact HB.out | apply below_alloc | apply pw_below_drewN | apply below_drew1 | refine below_set ?_ GE173.out | refine below_set ?_ GE186.out) | exact HB.out))⟩; clear BK173 BK186 HB hq_; have BK173 := n0_; have BK186 := n1_; have HB := n2_; clear n0_ n1_ n2_))))
                                    have n0_ := Aside0.mk (blk_drew BK173.out)
                                    have n1_ := Aside0.mk (blk_drew BK186.out)
                                    have n2_ := Aside0.mk (below_drew1 HB.out)
                                    clear BK173
                                    clear BK186
                                    clear HB
                                    have BK173 := n0_
                                    have BK186 := n1_
                                    have HB := n2_
                                    clear n0_ n1_ n2_
                                    have p195 : 0 ≤ (x10_2 : Int) := of_decide_eq_true (by first | (with_reducible assumption) | assumption)
                                    have q195 : x10_2 < (l0.length : Int) := of_decide_eq_true (by first | (with_reducible assumption) | assumption)
                                    obtain ⟨ad195, e195, hx195_0⟩ := Kd.at_int HR0.out x10_2 p195 q195
                                    have hw195_0 := hx195_0
                                    obtain rfl : ad174 = ad195 := (by injection e195)
                                    replace hx195_0 := (HB.out.cell (World.block_lt_of_cell? w _ hx195_0)).trans hx195_0
                                    replace p195 := eq_true p195
                                    replace q195 := eq_true q195
                                    refine start_ (n := 11) (S := fun w' => w'.cell? ⟨gb186, 0, none⟩ = some (.string x187000_2) ∧ w'.cell? ⟨gb186, 1, none⟩ = some (.int .u8 t176) ∧ w'.cell? ⟨gb186, 2, none⟩ = some (.int .i64 t177) ∧ w'.cell? ⟨gb186, 3, none⟩ = some (.bool t178) ∧ w'.cell? ⟨gb186, 4, none⟩ = some (.bool t179) ∧ w'.cell? ⟨gb186, 5, none⟩ = some (.bool t180) ∧ w'.cell? ⟨gb186, 6, none⟩ = some (.int .i64 t181) ∧ w'.cell? ⟨gb186, 7, none⟩ = some (.int .i64 t182) ∧ w'.cell? ⟨gb186, 8, none⟩ = some (.int .u8 t183) ∧ w'.cell? ⟨gb186, 9, none⟩ = some (.int .u16 t184) ∧ w'.cell? (ad174.add (x10_2).toNat) = some (.int .u8 (rd l0 x10_2))) (ds := [10]) #[false, false, false, false, false, false, false, false, false, false, false] (by kernel_rfl) rfl rfl ⟨(blk_cell BK186.out 0).trans rfl, (blk_cell BK186.out 1).trans rfl, (blk_cell BK186.out 2).trans rfl, (blk_cell BK186.out 3).trans rfl, (blk_cell BK186.out 4).trans rfl, (blk_cell BK186.out 5).trans rfl, (blk_cell BK186.out 6).trans rfl, (blk_cell BK186.out 7).trans rfl, (blk_cell BK186.out 8).trans rfl, (blk_cell BK186.out 9).trans rfl, ((HB.out.cell (World.block_lt_of_cell? w _ hw195_0)).trans hw195_0)⟩ (fun hHeld => ?_); refine with_tabW whirligigref07_Parse.tab16 whirligigref07_Parse.bits16 (fun HT_ HW_ => ?_)
                                    generalize wr.drew = w31 at BK173 BK186 HB hx195_0 hHeld ⊢
                                    refine pure_ (i := 0) (N := some 68) (v := ?_) (a' := ?_) #[true, false, false, false, false, false, false, false, false, false, false] rfl rfl (any_of HT_.out (by kernel_rfl)) (fun _ _ _ h => h) (Or.inl ⟨by rfl, ?_⟩) ?_ ?_
                                    rotate_left
                                    · intro w'
                                      go_simp
                                      with_reducible rfl
                                    rotate_left
                                    · simp only [Act.put, List.setIfInBounds_toArray, List.set_cons_zero, List.set_cons_succ, i64_w, i32_w]
                                      rfl
                                    refine pure_ (i := 2) (N := some 70) (v := ?_) (a' := ?_) #[true, false, true, false, false, false, false, false, false, false, false] rfl rfl (any_of HT_.out (by kernel_rfl)) (fun _ _ _ h => h) (Or.inl ⟨by rfl, ?_⟩) ?_ ?_
                                    rotate_left
                                    · intro w'
                                      go_simp
                                      with_reducible rfl
                                    rotate_left
                                    · simp only [Act.put, List.setIfInBounds_toArray, List.set_cons_zero, List.set_cons_succ, i64_w, i32_w]
                                      rfl
                                    refine pure_ (i := 3) (N := some 71) (v := ?_) (a' := ?_) #[true, false, true, true, false, false, false, false, false, false, false] rfl rfl (any_of HT_.out (by kernel_rfl)) (fun _ _ _ h => h) (Or.inl ⟨by rfl, ?_⟩) ?_ ?_
                                    rotate_left
                                    · intro w'
                                      go_simp
                                      with_reducible rfl
                                    rotate_left
                                    · simp only [Act.put, List.setIfInBounds_toArray, List.set_cons_zero, List.set_cons_succ, i64_w, i32_w]
                                      rfl
                                    refine pure_ (i := 4) (N := some 72) (v := ?_) (a' := ?_) #[true, false, true, true, true, false, false, false, false, false, false] rfl rfl (any_of HT_.out (by kernel_rfl)) (fun _ _ _ h => h) (Or.inl ⟨by rfl, ?_⟩) ?_ ?_
                                    rotate_left
                                    · intro w'
                                      go_simp
                                      with_reducible rfl
                                    rotate_left
                                    · simp only [Act.put, List.setIfInBounds_toArray, List.set_cons_zero, List.set_cons_succ, i64_w, i32_w]
                                      rfl
                                    refine take_ (i := 1) (N := some 69) (v := ?_) (a' := ?_) #[true, true, true, true, true, false, false, false, false, false, false] rfl rfl (take_ofW HT_.out HW_.out (by kernel_rfl)) (fun _ _ _ h => h) (Or.inl ⟨by rfl, ?_⟩) hHeld ?_ ?_
                                    rotate_left
                                    · rintro w' ⟨s0, s1, s2, s3, s4, s5, s6, s7, s8, s9, s10⟩
                                      go_simp
                                      with_reducible rfl
                                    rotate_left
                                    · simp only [Act.put, List.setIfInBounds_toArray, List.set_cons_zero, List.set_cons_succ, i64_w, i32_w]
                                      rfl
                                    refine take_ (i := 5) (N := some 73) (v := ?_) (a' := ?_) #[true, true, true, true, true, true, false, false, false, false, false] rfl rfl (take_ofW HT_.out HW_.out (by kernel_rfl)) (fun _ _ _ h => h) (Or.inl ⟨by rfl, ?_⟩) hHeld ?_ ?_
                                    rotate_left
                                    · rintro w' ⟨s0, s1, s2, s3, s4, s5, s6, s7, s8, s9, s10⟩
                                      go_simp
                                      with_reducible rfl
                                    rotate_left
                                    · simp only [Act.put, List.setIfInBounds_toArray, List.set_cons_zero, List.set_cons_succ, i64_w, i32_w]
                                      rfl
                                    refine one_ (i := 6) (N := some 74) #[true, true, true, true, true, true, true, false, false, false, false] rfl rfl (one_of HT_.out (by kernel_rfl)) (by decide) (fun K hK => ?_)
                                    refine Kd.R_lit_step (Kd.int .u8) _ 5 ?hg (N := 74) ?hd (xs := ([rd l0 x10_2] : List Int)) (inner := [.int .u8 (rd l0 x10_2)]) (ok := fun _ => True) (okp := fun _ => True) ?hr ?hp (fun _ hk => hk) trivial (Below.refl _ _) (Nat.le_refl _) (by simp) ?_; (case hd => rfl); (case hg => rfl); (case hr => first | (go_simp; done) | (go_simp; rfl)); (case hp => exact (Reps.one (show Kd.M (Kd.int .u8) _ _ _ (rd l0 x10_2) [.int .u8 (rd l0 x10_2)] from rfl) (Reps.none _ _)))
                                    intro v197 w32 ho33 hb hg_ hnew_
                                    clear hg_ hnew_
                                    (first | rw [← Ny196.out] at ho33 | (simp only [Int.reduceToNat] at ho33; rw [← Ny196.out] at ho33))
                                    have n0_ := Aside0.mk (Kd.R_lower ho33 (below_size (by repeat (first | (with_reducible first | exact HB.out | apply below_alloc | apply pw_below_drewN | apply below_drew1 | refine below_set ?_ GE173.out | refine below_set ?_ GE186.out) | exact HB.out))))
                                    have n1_ := Aside0.mk (blk_below (g := gb173) (o := .cells #[.string (⟨#[]⟩ : ByteArray), .int .u8 0, .int .i64 0, .bool false, .bool false, .bool false, .int .i64 0, .int .i64 0, .int .u8 0, .int .u16 0] 26 (0, 0)) (by (with_reducible repeat (first | refine blk_drewN ?_ _ | refine blk_drew ?_ | refine blk_alloc ?_ _)); exact BK173.out) hb)
                                    have n2_ := Aside0.mk (blk_below (g := gb186) (o := .cells #[.string x187000_2, .int .u8 t176, .int .i64 t177, .bool t178, .bool t179, .bool t180, .int .i64 t181, .int .i64 t182, .int .u8 t183, .int .u16 t184] 26 (0, 0)) (by (with_reducible repeat (first | refine blk_drewN ?_ _ | refine blk_drew ?_ | refine blk_alloc ?_ _)); exact BK186.out) hb)
                                    have n3_ := Aside0.mk (below_step (by repeat (first | (with_reducible first | exact HB.out | apply below_alloc | apply pw_below_drewN | apply below_drew1 | refine below_set ?_ GE173.out | refine below_set ?_ GE186.out) | exact HB.out)) hb)
                                    clear BK173
                                    clear BK186
                                    clear HB
                                    have HO198 := n0_
                                    have BK173 := n1_
                                    have BK186 := n2_
                                    have HB := n3_
                                    clear n0_ n1_ n2_ n3_
                                    clear hb ho33
                                    refine hK.out _ _ ⟨(blk_cell BK186.out 0).trans rfl, (blk_cell BK186.out 1).trans rfl, (blk_cell BK186.out 2).trans rfl, (blk_cell BK186.out 3).trans rfl, (blk_cell BK186.out 4).trans rfl, (blk_cell BK186.out 5).trans rfl, (blk_cell BK186.out 6).trans rfl, (blk_cell BK186.out 7).trans rfl, (blk_cell BK186.out 8).trans rfl, (blk_cell BK186.out 9).trans rfl, ((HB.out.cell (World.block_lt_of_cell? w _ hw195_0)).trans hw195_0)⟩ (fun hHeld => ?_)
                                    clear hK K
                                    refine norm_ (a' := ?_) ?_ ?_
                                    rotate_left
                                    · show Act.put _ (some 74) _ = _
                                      simp only [Act.put, List.setIfInBounds_toArray, List.set_cons_zero, List.set_cons_succ, i64_w, i32_w]
                                      rfl
                                    refine one_ (i := 7) (N := some 75) #[true, true, true, true, true, true, true, true, false, false, false] rfl rfl (one_of HT_.out (by kernel_rfl)) (by decide) (fun K hK => ?_)
                                    have hcv34 := own_string (P := Try.prog) Try.underlying22 Try.underlying5 Try.underlying9 (Kd.own_of_R HO198.out)
                                    refine value_ (w1 := ?_) (v := ?_) (by rfl) rfl ?_ ?_
                                    rotate_left 2
                                    · go_simp
                                      constructor
                                      · rfl
                                      · rfl
                                    clear hcv34
                                    refine hK.out _ _ ⟨(blk_cell BK186.out 0).trans rfl, (blk_cell BK186.out 1).trans rfl, (blk_cell BK186.out 2).trans rfl, (blk_cell BK186.out 3).trans rfl, (blk_cell BK186.out 4).trans rfl, (blk_cell BK186.out 5).trans rfl, (blk_cell BK186.out 6).trans rfl, (blk_cell BK186.out 7).trans rfl, (blk_cell BK186.out 8).trans rfl, (blk_cell BK186.out 9).trans rfl, ((HB.out.cell (World.block_lt_of_cell? w _ hw195_0)).trans hw195_0)⟩ (fun hHeld => ?_)
                                    clear hK K
                                    refine norm_ (a' := ?_) ?_ ?_
                                    rotate_left
                                    · show Act.put _ (some 75) _ = _
                                      simp only [Act.put, List.setIfInBounds_toArray, List.set_cons_zero, List.set_cons_succ, i64_w, i32_w]
                                      rfl
                                    refine pure_ (i := 8) (N := some 76) (v := ?_) (a' := ?_) #[true, true, true, true, true, true, true, true, true, false, false] rfl rfl (any_of HT_.out (by kernel_rfl)) (fun _ _ _ h => h) (Or.inl ⟨by rfl, ?_⟩) ?_ ?_
                                    rotate_left
                                    · intro w'
                                      go_simp
                                      with_reducible rfl
                                    rotate_left
                                    · simp only [Act.put, List.setIfInBounds_toArray, List.set_cons_zero, List.set_cons_succ, i64_w, i32_w]
                                      rfl
                                    refine pure_ (i := 9) (N := some 77) (v := ?_) (a' := ?_) #[true, true, true, true, true, true, true, true, true, true, false] rfl rfl (any_of HT_.out (by kernel_rfl)) (fun _ _ _ h => h) (Or.inl ⟨by rfl, ?_⟩) ?_ ?_
                                    rotate_left
                                    · intro w'
                                      go_simp
                                      with_reducible rfl
                                    rotate_left
                                    · simp only [Act.put, List.setIfInBounds_toArray, List.set_cons_zero, List.set_cons_succ, i64_w, i32_w]
                                      rfl
                                    refine last_ (i := 10) (N := none) #[true, true, true, true, true, true, true, true, true, true, true] rfl rfl (one_of HT_.out (by kernel_rfl)) (by decide) (fun K hK => ?_)
                                    have hs35 : w32.cell? ⟨gb186, 0, none⟩ = some (.string x187000_2) := (blk_cell BK186.out 0).trans rfl
                                    have hfs35 := blk_frozen BK186.out 0
                                    have hns35_0 := NB173_186.out
                                    have hms35_0 := NB186_173.out
                                    refine skip_ (w1 := ?_) (by rfl) rfl ?_ ?_
                                    rotate_left
                                    · go_simp
                                      rfl
                                    refine hK.out _ _ ?_
                                    clear hK K
                                    refine done_ (done_of HT_.out (by kernel_rfl)) ?_
                                    try go_wp2
                                    go_roundg k2
                                    case measure => have := HJ9.out; have := HK2.out; omega
                                    case rel => exact ⟨(wrap64 (x10_2 + 1)), (x187000_2 ++ (strOfNums y196)), (by first | rfl | (simp; done) | (simp [*]; done)), H', ⟨by have := HJ9.out; have := HK2.out; omega⟩, ⟨by (with_reducible repeat (first | refine blk_drewN ?_ _ | refine blk_drew ?_ | refine blk_alloc ?_ _)); refine blk_far ?_ NB173_186.out _; (with_reducible repeat (first | refine blk_drewN ?_ _ | refine blk_drew ?_ | refine blk_alloc ?_ _)); exact BK173.out⟩, ⟨by (with_reducible repeat (first | refine blk_drewN ?_ _ | refine blk_drew ?_ | refine blk_alloc ?_ _)); refine blk_put (cs := #[.string x187000_2, .int .u8 t176, .int .i64 t177, .bool t178, .bool t179, .bool t180, .int .i64 t181, .int .i64 t182, .int .u8 t183, .int .u16 t184]) ?_ 0 _ rfl; (with_reducible repeat (first | refine blk_drewN ?_ _ | refine blk_drew ?_ | refine blk_alloc ?_ _)); exact BK186.out⟩, ⟨by repeat (first | (with_reducible first | exact HB.out | apply below_alloc | apply pw_below_drewN | apply below_drew1 | refine below_set ?_ GE173.out | refine below_set ?_ GE186.out) | exact HB.out)⟩⟩
                                  · rw [if_neg c30] at H
                                    exact absurd H (by simp)
                                · replace c29 := Bool.eq_false_iff.mpr c29
                                  subst c29
                                  have H1 : ((whirligigref07_Most.f k2 (rd l0 328)).bind fun t199 => (if t178 = true then ((some (([0, 2048, 8192, 32768, 131072, 65536] : List Int) : List Int)).bind fun y200 => (if 0 ≤ (rd l0 329) then (if (rd l0 329) < (y200.length : Int) then (if 334 < (l0.length : Int) then (if 335 < (l0.length : Int) then (some (x187000_2, t176, t177, t178, t179, t180, wrap64 (Int.tdiv t199 16384), rd y200 (rd l0 329), t190, IntKind.u16.wrap (wrap64 ((wrap64 (256 * (wrap64 (rd l0 334)))) + (wrap64 (rd l0 335)))), 0)) else (none)) else (none)) else (none)) else (none))) else (if 334 < (l0.length : Int) then (if 335 < (l0.length : Int) then (some (x187000_2, t176, t177, t178, t179, t180, wrap64 (Int.tdiv t199 16384), t182, t190, IntKind.u16.wrap (wrap64 ((wrap64 (256 * (wrap64 (rd l0 334)))) + (wrap64 (rd l0 335)))), 0)) else (none)) else (none)))) = some (r1, r2, r3, r4, r5, r6, r7, r8, r9, r10, r11) := by rw [if_neg (show ¬ (false = true) by decide)] at H; exact H
                                  clear H
                                  have H := H1
                                  clear H1
                                  replace H := Option.bind_eq_some_iff.mp H
                                  obtain ⟨t199, A360, H⟩ := H
                                  replace H : (if t178 = true then ((some (([0, 2048, 8192, 32768, 131072, 65536] : List Int) : List Int)).bind fun y200 => (if 0 ≤ (rd l0 329) then (if (rd l0 329) < (y200.length : Int) then (if 334 < (l0.length : Int) then (if 335 < (l0.length : Int) then (some (x187000_2, t176, t177, t178, t179, t180, wrap64 (Int.tdiv t199 16384), rd y200 (rd l0 329), t190, IntKind.u16.wrap (wrap64 ((wrap64 (256 * (wrap64 (rd l0 334)))) + (wrap64 (rd l0 335)))), 0)) else (none)) else (none)) else (none)) else (none))) else (if 334 < (l0.length : Int) then (if 335 < (l0.length : Int) then (some (x187000_2, t176, t177, t178, t179, t180, wrap64 (Int.tdiv t199 16384), t182, t190, IntKind.u16.wrap (wrap64 ((wrap64 (256 * (wrap64 (rd l0 334)))) + (wrap64 (rd l0 335)))), 0)) else (none)) else (none))) = some (r1, r2, r3, r4, r5, r6, r7, r8, r9, r10, r11) := H
                                  have A36 := Aside0.mk A360
                                  clear A360
                                  by_cases c37 : t178 = true
                                  · subst c37
                                    have H1 : ((some (([0, 2048, 8192, 32768, 131072, 65536] : List Int) : List Int)).bind fun y200 => (if 0 ≤ (rd l0 329) then (if (rd l0 329) < (y200.length : Int) then (if 334 < (l0.length : Int) then (if 335 < (l0.length : Int) then (some (x187000_2, t176, t177, true, t179, t180, wrap64 (Int.tdiv t199 16384), rd y200 (rd l0 329), t190, IntKind.u16.wrap (wrap64 ((wrap64 (256 * (wrap64 (rd l0 334)))) + (wrap64 (rd l0 335)))), 0)) else (none)) else (none)) else (none)) else (none))) = some (r1, r2, r3, r4, r5, r6, r7, r8, r9, r10, r11) := by rw [if_pos rfl] at H; exact H
                                    clear H
                                    have H := H1
                                    clear H1
                                    obtain ⟨y200, hy200⟩ : ∃ y_ : List Int, y_ = (([0, 2048, 8192, 32768, 131072, 65536] : List Int)) := ⟨_, rfl⟩
                                    replace H : (if 0 ≤ (rd l0 329) then (if (rd l0 329) < (y200.length : Int) then (if 334 < (l0.length : Int) then (if 335 < (l0.length : Int) then (some (x187000_2, t176, t177, true, t179, t180, wrap64 (Int.tdiv t199 16384), rd y200 (rd l0 329), t190, IntKind.u16.wrap (wrap64 ((wrap64 (256 * (wrap64 (rd l0 334)))) + (wrap64 (rd l0 335)))), 0)) else (none)) else (none)) else (none)) else (none)) = some (r1, r2, r3, r4, r5, r6, r7, r8, r9, r10, r11) := by first | (rw [hy200]; with_reducible exact H) | (have H2_ := (Option.bind_some _ _).symm.trans H; rw [hy200]; with_reducible exact H2_) | (have H2_ := (Option.bind_some _ _).symm.trans H; with_reducible exact H2_) | with_reducible exact H | (rw [hy200]; exact H) | exact H
                                    have Ny200 := Aside0.mk hy200
                                    clear hy200
                                    by_cases c38 : 0 ≤ (rd l0 329)
                                    · rw [if_pos c38] at H
                                      have c38b0 : decide (0 ≤ (rd l0 329)) = true := decide_eq_true c38
                                      clear c38
                                      by_cases c39 : (rd l0 329) < (y200.length : Int)
                                      · rw [if_pos c39] at H
                                        have c39b0 : decide ((rd l0 329) < (y200.length : Int)) = true := decide_eq_true c39
                                        clear c39
                                        by_cases c40 : 334 < (l0.length : Int)
                                        · rw [if_pos c40] at H
                                          have c40b0 : decide (334 < (l0.length : Int)) = true := decide_eq_true c40
                                          have c40b1 : decide (334 < l0.length) = true := decide_eq_true (by omega)
                                          clear c40
                                          by_cases c41 : 335 < (l0.length : Int)
                                          · rw [if_pos c41] at H
                                            have c41b0 : decide (335 < (l0.length : Int)) = true := decide_eq_true c41
                                            have c41b1 : decide (335 < l0.length) = true := decide_eq_true (by omega)
                                            clear c41
                                            simp only [Option.some.injEq, Prod.mk.injEq] at H
                                            obtain ⟨rfl, rfl, rfl, rfl, rfl, rfl, rfl, rfl, rfl, rfl, rfl⟩ := H
                                            have p193 : 0 ≤ (x10_2 : Int) := of_decide_eq_true (by first | (with_reducible assumption) | assumption)
                                            have q193 : x10_2 < (l0.length : Int) := of_decide_eq_true (by first | (with_reducible assumption) | assumption)
                                            obtain ⟨ad193, e193, hx193_0⟩ := Kd.at_int HR0.out x10_2 p193 q193
                                            obtain rfl : ad174 = ad193 := (by injection e193)
                                            replace hx193_0 := (HB.out.cell (World.block_lt_of_cell? w _ hx193_0)).trans hx193_0
                                            replace p193 := eq_true p193
                                            replace q193 := eq_true q193
                                            try go_wp2_with (first | (go_at_call 27; (with_reducible refine (whirligigref07_signs.calls (rd l0 x10_2) false _ A28.out).mono ?_); rintro e w' ⟨rfl, ⟨nd, rfl⟩⟩; (try (rw [drewN_self wr]; generalize hq_ : World.drewN wr _ = wr; have n0_ : Aside0 (wr.heap[gb173]? = some (.cells #[.string (⟨#[]⟩ : ByteArray), .int .u8 0, .int .i64 0, .bool false, .bool false, .bool false, .int .i64 0, .int .i64 0, .int .u8 0, .int .u16 0] 26 (0, 0))) := ⟨by rw [← hq_]; exact (by (with_reducible repeat (first | refine blk_drewN ?_ _ | refine blk_drew ?_ | refine blk_alloc ?_ _)); exact BK173.out)⟩; have n1_ : Aside0 (wr.heap[gb186]? = some (.cells #[.string x187000_2, .int .u8 t176, .int .i64 t177, .bool true, .bool t179, .bool t180, .int .i64 t181, .int .i64 t182, .int .u8 t183, .int .u16 t184] 26 (0, 0))) := ⟨by rw [← hq_]; exact (by (with_reducible repeat (first | refine blk_drewN ?_ _ | refine blk_drew ?_ | refine blk_alloc ?_ _)); exact BK186.out)⟩; have n2_ : Aside0 (Below w.heap.size w wr) := ⟨by rw [← hq_]; exact (by repeat (first | (with_reducible first | exact HB.out | apply below_alloc | apply pw_below_drewN | apply below_drew1 | refine below_set ?_ GE173.out | refine below_set ?_ GE186.out) | exact HB.out))⟩; clear BK173 BK186 HB hq_; have BK173 := n0_; have BK186 := n1_; have HB := n2_; clear n0_ n1_ n2_))) | ((with_reducible refine gate_callee (f := 26) rfl ?_); refine goesL_ (some 79) rfl rfl Try.func26 (by kernel_rfl) rfl #[.int .u8 (rd l0 328)] rfl (by (try simp only [List.map_toArray, List.map_cons, List.map_nil]); first | done | rfl | (simp only [List.length_drop, List.length_take]; rfl)) ?_; (with_reducible refine (whirligigref07_Most.calls k2 (rd l0 328) t199 _ A36.out).mono ?_); rintro e w' ⟨rfl, ⟨nd, rfl⟩⟩; refine ⟨_, rfl, ?_⟩; (try (rw [drewN_self wr]; generalize hq_ : World.drewN wr _ = wr; have n0_ : Aside0 (wr.heap[gb173]? = some (.cells #[.string (⟨#[]⟩ : ByteArray), .int .u8 0, .int .i64 0, .bool false, .bool false, .bool false, .int .i64 0, .int .i64 0, .int .u8 0, .int .u16 0] 26 (0, 0))) := ⟨by rw [← hq_]; exact (by (with_reducible repeat (first | refine blk_drewN ?_ _ | refine blk_drew ?_ | refine blk_alloc ?_ _)); exact BK173.out)⟩; have n1_ : Aside0 (wr.heap[gb186]? = some (.cells #[.string x187000_2, .int .u8 t176, .int .i64 t177, .bool true, .bool t179, .bool t180, .int .i64 t181, .int .i64 t182, .int .u8 t183, .int .u16 t184] 26 (0, 0))) := ⟨by rw [← hq_]; exact (by (with_reducible repeat (first | refine blk_drewN ?_ _ | refine blk_drew ?_ | refine blk_alloc ?_ _)); exact BK186.out)⟩; have n2_ : Aside0 (Below w.heap.size w wr) := ⟨by rw [← hq_]; exact (by repeat (first | (with_reducible first | exact HB.out | apply below_alloc | apply pw_below_drewN | apply below_drew1 | refine below_set ?_ GE173.out | refine below_set ?_ GE186.out) | exact HB.out))⟩; clear BK173 BK186 HB hq_; have BK173 := n0_; have BK186 := n1_; have HB := n2_; clear n0_ n1_ n2_)); have hnb42 := NB186_173.out; have hnc42 := NB173_186.out; have hcz43_0 : wr.cell? ⟨gb186, 0, none⟩ = some (.string x187000_2) := (blk_cell BK186.out 0).trans rfl; have hcz43_1 : wr.cell? ⟨gb186, 1, none⟩ = some (.int .u8 t176) := (blk_cell BK186.out 1).trans rfl; have hcz43_2 : wr.cell? ⟨gb186, 2, none⟩ = some (.int .i64 t177) := (blk_cell BK186.out 2).trans rfl; have hcz43_3 : wr.cell? ⟨gb186, 3, none⟩ = some (.bool true) := (blk_cell BK186.out 3).trans rfl; have hcz43_4 : wr.cell? ⟨gb186, 4, none⟩ = some (.bool t179) := (blk_cell BK186.out 4).trans rfl; have hcz43_5 : wr.cell? ⟨gb186, 5, none⟩ = some (.bool t180) := (blk_cell BK186.out 5).trans rfl; have hcz43_6 : wr.cell? ⟨gb186, 6, none⟩ = some (.int .i64 t181) := (blk_cell BK186.out 6).trans rfl; have hcz43_7 : wr.cell? ⟨gb186, 7, none⟩ = some (.int .i64 t182) := (blk_cell BK186.out 7).trans rfl; have hcz43_8 : wr.cell? ⟨gb186, 8, none⟩ = some (.int .u8 t183) := (blk_cell BK186.out 8).trans rfl; have hcz43_9 : wr.cell? ⟨gb186, 9, none⟩ = some (.int .u16 t184) := (blk_cell BK186.out 9).trans rfl; have hfz43_0 := blk_frozen BK186.out 0; have hfz43_1 := blk_frozen BK186.out 1; have hfz43_2 := blk_frozen BK186.out 2; have hfz43_3 := blk_frozen BK186.out 3; have hfz43_4 := blk_frozen BK186.out 4; have hfz43_5 := blk_frozen BK186.out 5; have hfz43_6 := blk_frozen BK186.out 6; have hfz43_7 := blk_frozen BK186.out 7; have hfz43_8 := blk_frozen BK186.out 8; have hfz43_9 := blk_frozen BK186.out 9) | ((with_reducible refine gate_dst (N := 84) rfl ?_); (try (refine gate_guard (by rfl) ?_; dsimp only)); refine Kd.R_lit (Kd.int .i64) _ 3 ?hg (N := 84) ?hd (xs := ([0, 2048, 8192, 32768, 131072, 65536] : List Int)) (inner := [.int .i64 0, .int .i64 2048, .int .i64 8192, .int .i64 32768, .int .i64 131072, .int .i64 65536]) (ok := fun _ => True) (okp := fun _ => True) ?hr ?hp (fun _ hk => hk) trivial (Below.refl _ _) (Nat.le_refl _) (by simp) ?_; (case hd => rfl); (case hg => rfl); (case hr => first | (go_simp; done) | (go_simp; rfl)); (case hp => exact (Reps.one (show Kd.M (Kd.int .i64) _ _ _ 0 [.int .i64 0] from rfl) (Reps.one (show Kd.M (Kd.int .i64) _ _ _ 2048 [.int .i64 2048] from rfl) (Reps.one (show Kd.M (Kd.int .i64) _ _ _ 8192 [.int .i64 8192] from rfl) (Reps.one (show Kd.M (Kd.int .i64) _ _ _ 32768 [.int .i64 32768] from rfl) (Reps.one (show Kd.M (Kd.int .i64) _ _ _ 131072 [.int .i64 131072] from rfl) (Reps.one (show Kd.M (Kd.int .i64) _ _ _ 65536 [.int .i64 65536] from rfl) (Reps.none _ _)))))))); intro v201 w44 ho45 hb hg_ hnew_; clear hg_ hnew_; (first | rw [← Ny200.out] at ho45 | (simp only [Int.reduceToNat] at ho45; rw [← Ny200.out] at ho45)); have n0_ := Aside0.mk (Kd.R_lower ho45 (below_size (by repeat (first | (with_reducible first | exact HB.out | apply below_alloc | apply pw_below_drewN | apply below_drew1 | refine below_set ?_ GE173.out | refine below_set ?_ GE186.out) | exact HB.out)))); have n1_ := Aside0.mk (blk_below (g := gb173) (o := .cells #[.string (⟨#[]⟩ : ByteArray), .int .u8 0, .int .i64 0, .bool false, .bool false, .bool false, .int .i64 0, .int .i64 0, .int .u8 0, .int .u16 0] 26 (0, 0)) (by (with_reducible repeat (first | refine blk_drewN ?_ _ | refine blk_drew ?_ | refine blk_alloc ?_ _)); refine blk_far ?_ NB173_186.out _; (with_reducible repeat (first | refine blk_drewN ?_ _ | refine blk_drew ?_ | refine blk_alloc ?_ _)); exact BK173.out) hb); have n2_ := Aside0.mk (blk_below (g := gb186) (o := .cells #[.string x187000_2, .int .u8 t176, .int .i64 t177, .bool true, .bool t179, .bool t180, .int .i64 (wrap64 (Int.tdiv t199 16384)), .int .i64 t182, .int .u8 t183, .int .u16 t184] 26 (0, 0)) (by (with_reducible repeat (first | refine blk_drewN ?_ _ | refine blk_drew ?_ | refine blk_alloc ?_ _)); refine blk_put (cs := #[.string x187000_2, .int .u8 t176, .int .i64 t177, .bool true, .bool t179, .bool t180, .int .i64 t181, .int .i64 t182, .int .u8 t183, .int .u16 t184]) ?_ 6 _ rfl; (with_reducible repeat (first | refine blk_drewN ?_ _ | refine blk_drew ?_ | refine blk_alloc ?_ _)); exact BK186.out) hb); have n3_ := Aside0.mk (below_step (by repeat (first | (with_reducible first | exact HB.out | apply below_alloc | apply pw_below_drewN | apply below_drew1 | refine below_set ?_ GE173.out | refine below_set ?_ GE186.out) | exact HB.out)) hb); clear BK173; clear BK186; clear HB; have HO202 := n0_; have BK173 := n1_; have BK186 := n2_; have HB := n3_; clear n0_ n1_ n2_ n3_; clear hb ho45; obtain ⟨Ao46, co46, eo46⟩ := Kd.R_slice HO202.out; subst eo46; have p203 : 0 ≤ ((rd l0 329) : Int) := of_decide_eq_true (by first | (with_reducible assumption) | assumption); have q203 : (rd l0 329) < (y200.length : Int) := of_decide_eq_true (by first | (with_reducible assumption) | assumption); obtain ⟨ad203, e203, hx203_0⟩ := Kd.at_int (Kd.R_reads' HO202.out).2.2 (rd l0 329) p203 q203; cases e203; replace p203 := eq_true p203; replace q203 := eq_true q203; have hcz47_0 : w44.cell? ⟨gb186, 0, none⟩ = some (.string x187000_2) := (blk_cell BK186.out 0).trans rfl; have hcz47_1 : w44.cell? ⟨gb186, 1, none⟩ = some (.int .u8 t176) := (blk_cell BK186.out 1).trans rfl; have hcz47_2 : w44.cell? ⟨gb186, 2, none⟩ = some (.int .i64 t177) := (blk_cell BK186.out 2).trans rfl; have hcz47_3 : w44.cell? ⟨gb186, 3, none⟩ = some (.bool true) := (blk_cell BK186.out 3).trans rfl; have hcz47_4 : w44.cell? ⟨gb186, 4, none⟩ = some (.bool t179) := (blk_cell BK186.out 4).trans rfl; have hcz47_5 : w44.cell? ⟨gb186, 5, none⟩ = some (.bool t180) := (blk_cell BK186.out 5).trans rfl; have hcz47_6 : w44.cell? ⟨gb186, 6, none⟩ = some (.int .i64 (wrap64 (Int.tdiv t199 16384))) := (blk_cell BK186.out 6).trans rfl; have hcz47_7 : w44.cell? ⟨gb186, 7, none⟩ = some (.int .i64 t182) := (blk_cell BK186.out 7).trans rfl; have hcz47_8 : w44.cell? ⟨gb186, 8, none⟩ = some (.int .u8 t183) := (blk_cell BK186.out 8).trans rfl; have hcz47_9 : w44.cell? ⟨gb186, 9, none⟩ = some (.int .u16 t184) := (blk_cell BK186.out 9).trans rfl; have hfz47_0 := blk_frozen BK186.out 0; have hfz47_1 := blk_frozen BK186.out 1; have hfz47_2 := blk_frozen BK186.out 2; have hfz47_3 := blk_frozen BK186.out 3; have hfz47_4 := blk_frozen BK186.out 4; have hfz47_5 := blk_frozen BK186.out 5; have hfz47_6 := blk_frozen BK186.out 6; have hfz47_7 := blk_frozen BK186.out 7; have hfz47_8 := blk_frozen BK186.out 8; have hfz47_9 := blk_frozen BK186.out 9))
                                            have n0_ : Aside0 (Kd.R (Kd.int .i64) 3 ((w44.setCell ⟨gb186, 7, none⟩ (.int .i64 (rd y200 (rd l0 329)))).setCell ⟨gb186, 8, none⟩ (.int .u8 t190)) w.heap.size (fun _ => True) (.slice (some ad203) y200.length co46) y200) := ⟨by (with_reducible repeat (first | apply Kd.R_alloc | apply Kd.R_drewN | apply Kd.R_drew)); exact Kd.R_mono (Kd.R_far (p := ⟨gb186, 8, none⟩) (Kd.R_far (p := ⟨gb186, 7, none⟩) (Kd.R_types HO202.out BK186.out (by decide)) (fun _ hk => hk.2) (.int .i64 (rd y200 (rd l0 329)))) (fun _ hk => hk.2) (.int .u8 t190)) (fun _ hk => trivial)⟩
                                            have n1_ : Aside0 (((w44.setCell ⟨gb186, 7, none⟩ (.int .i64 (rd y200 (rd l0 329)))).setCell ⟨gb186, 8, none⟩ (.int .u8 t190)).heap[gb173]? = some (.cells #[.string (⟨#[]⟩ : ByteArray), .int .u8 0, .int .i64 0, .bool false, .bool false, .bool false, .int .i64 0, .int .i64 0, .int .u8 0, .int .u16 0] 26 (0, 0))) := ⟨by (with_reducible repeat (first | refine blk_drewN ?_ _ | refine blk_drew ?_ | refine blk_alloc ?_ _)); refine blk_far ?_ NB173_186.out _; (with_reducible repeat (first | refine blk_drewN ?_ _ | refine blk_drew ?_ | refine blk_alloc ?_ _)); refine blk_far ?_ NB173_186.out _; (with_reducible repeat (first | refine blk_drewN ?_ _ | refine blk_drew ?_ | refine blk_alloc ?_ _)); exact BK173.out⟩
                                            have n2_ : Aside0 (((w44.setCell ⟨gb186, 7, none⟩ (.int .i64 (rd y200 (rd l0 329)))).setCell ⟨gb186, 8, none⟩ (.int .u8 t190)).heap[gb186]? = some (.cells #[.string x187000_2, .int .u8 t176, .int .i64 t177, .bool true, .bool t179, .bool t180, .int .i64 (wrap64 (Int.tdiv t199 16384)), .int .i64 (rd y200 (rd l0 329)), .int .u8 t190, .int .u16 t184] 26 (0, 0))) := ⟨by (with_reducible repeat (first | refine blk_drewN ?_ _ | refine blk_drew ?_ | refine blk_alloc ?_ _)); refine blk_put (cs := #[.string x187000_2, .int .u8 t176, .int .i64 t177, .bool true, .bool t179, .bool t180, .int .i64 (wrap64 (Int.tdiv t199 16384)), .int .i64 (rd y200 (rd l0 329)), .int .u8 t183, .int .u16 t184]) ?_ 8 _ rfl; (with_reducible repeat (first | refine blk_drewN ?_ _ | refine blk_drew ?_ | refine blk_alloc ?_ _)); refine blk_put (cs := #[.string x187000_2, .int .u8 t176, .int .i64 t177, .bool true, .bool t179, .bool t180, .int .i64 (wrap64 (Int.tdiv t199 16384)), .int .i64 t182, .int .u8 t183, .int .u16 t184]) ?_ 7 _ rfl; (with_reducible repeat (first | refine blk_drewN ?_ _ | refine blk_drew ?_ | refine blk_alloc ?_ _)); exact BK186.out⟩
                                            have n3_ : Aside0 (Below w.heap.size w ((w44.setCell ⟨gb186, 7, none⟩ (.int .i64 (rd y200 (rd l0 329)))).setCell ⟨gb186, 8, none⟩ (.int .u8 t190))) := ⟨by repeat (first | (with_reducible first | exact HB.out | apply below_alloc | apply pw_below_drewN | apply below_drew1 | refine below_set ?_ GE173.out | refine below_set ?_ GE186.out) | exact HB.out)⟩
                                            (try clear HO202)
                                            (try clear BK173)
                                            (try clear BK186)
                                            (try clear HB)
                                            generalize ((w44.setCell ⟨gb186, 7, none⟩ (.int .i64 (rd y200 (rd l0 329)))).setCell ⟨gb186, 8, none⟩ (.int .u8 t190)) = w48 at n0_ n1_ n2_ n3_ ⊢
                                            have HO202 := n0_
                                            have BK173 := n1_
                                            have BK186 := n2_
                                            have HB := n3_
                                            clear n0_ n1_ n2_ n3_
                                            have n0_ := Aside0.mk (Kd.R_drew HO202.out)
                                            have n1_ := Aside0.mk (blk_drew BK173.out)
                                            have n2_ := Aside0.mk (blk_drew BK186.out)
                                            have n3_ := Aside0.mk (below_drew1 HB.out)
                                            clear HO202
                                            clear BK173
                                            clear BK186
                                            clear HB
                                            have HO202 := n0_
                                            have BK173 := n1_
                                            have BK186 := n2_
                                            have HB := n3_
                                            clear n0_ n1_ n2_ n3_
                                            have p204 : 0 ≤ (334 : Int) := (by omega)
                                            have q204 : 334 < (l0.length : Int) := of_decide_eq_true (by first | (with_reducible assumption) | assumption)
                                            obtain ⟨ad204, e204, hx204_0⟩ := Kd.at_int HR0.out 334 p204 q204
                                            have hw204_0 := hx204_0
                                            (try rw [show ((334 : Int)).toNat = 334 from rfl] at hw204_0)
                                            (try rw [show 334 * 1 = 334 from rfl] at hw204_0)
                                            (try simp only [Nat.reduceMul, Nat.reduceEqDiff, Go.Addr.add, ↓reduceIte] at hw204_0)
                                            obtain rfl : ad174 = ad204 := (by injection e204)
                                            (try simp only [show (334 : Int).toNat = 334 from rfl, Nat.reduceMul, Nat.reduceEqDiff, Go.Addr.add, ↓reduceIte] at hx204_0)
                                            have qi204 : (334 < l0.length) = True := eq_true (by omega)
                                            (try rw [show ((334 : Int)).toNat = 334 from rfl] at hx204_0)
                                            replace hx204_0 := (HB.out.cell (World.block_lt_of_cell? w _ hx204_0)).trans hx204_0
                                            replace p204 := eq_true p204
                                            replace q204 := eq_true q204
                                            have p205 : 0 ≤ (335 : Int) := (by omega)
                                            have q205 : 335 < (l0.length : Int) := of_decide_eq_true (by first | (with_reducible assumption) | assumption)
                                            obtain ⟨ad205, e205, hx205_0⟩ := Kd.at_int HR0.out 335 p205 q205
                                            have hw205_0 := hx205_0
                                            (try rw [show ((335 : Int)).toNat = 335 from rfl] at hw205_0)
                                            (try rw [show 335 * 1 = 335 from rfl] at hw205_0)
                                            (try simp only [Nat.reduceMul, Nat.reduceEqDiff, Go.Addr.add, ↓reduceIte] at hw205_0)
                                            obtain rfl : ad174 = ad205 := (by injection e205)
                                            (try simp only [show (335 : Int).toNat = 335 from rfl, Nat.reduceMul, Nat.reduceEqDiff, Go.Addr.add, ↓reduceIte] at hx205_0)
                                            have qi205 : (335 < l0.length) = True := eq_true (by omega)
                                            (try rw [show ((335 : Int)).toNat = 335 from rfl] at hx205_0)
                                            replace hx205_0 := (HB.out.cell (World.block_lt_of_cell? w _ hx205_0)).trans hx205_0
                                            replace p205 := eq_true p205
                                            replace q205 := eq_true q205
                                            refine start_ (n := 13) (S := fun w' => w'.cell? ⟨ad174.block, ad174.off + 334, none⟩ = some (.int .u8 (rd l0 334)) ∧ w'.cell? ⟨ad174.block, ad174.off + 335, none⟩ = some (.int .u8 (rd l0 335))) (ds := []) #[false, false, false, false, false, false, false, false, false, false, false, false, false] (by kernel_rfl) rfl rfl ⟨((HB.out.cell (World.block_lt_of_cell? w _ hw204_0)).trans hw204_0), ((HB.out.cell (World.block_lt_of_cell? w _ hw205_0)).trans hw205_0)⟩ (fun hHeld => ?_); refine with_tabW whirligigref07_Parse.tab22 whirligigref07_Parse.bits22 (fun HT_ HW_ => ?_)
                                            generalize w48.drew = w49 at HO202 BK173 BK186 HB hx204_0 hx205_0 hHeld ⊢
                                            refine pure_ (i := 0) (N := some 92) (v := ?_) (a' := ?_) #[true, false, false, false, false, false, false, false, false, false, false, false, false] rfl rfl (any_of HT_.out (by kernel_rfl)) (fun _ _ _ h => h) (Or.inl ⟨by rfl, ?_⟩) ?_ ?_
                                            rotate_left
                                            · intro w'
                                              go_simp
                                              with_reducible rfl
                                            rotate_left
                                            · simp only [Act.put, List.setIfInBounds_toArray, List.set_cons_zero, List.set_cons_succ, i64_w, i32_w]
                                              rfl
                                            refine pure_ (i := 1) (N := some 93) (v := ?_) (a' := ?_) #[true, true, false, false, false, false, false, false, false, false, false, false, false] rfl rfl (any_of HT_.out (by kernel_rfl)) (fun _ _ _ h => h) (Or.inl ⟨by rfl, ?_⟩) ?_ ?_
                                            rotate_left
                                            · intro w'
                                              go_simp
                                              with_reducible rfl
                                            rotate_left
                                            · simp only [Act.put, List.setIfInBounds_toArray, List.set_cons_zero, List.set_cons_succ, i64_w, i32_w]
                                              rfl
                                            refine pure_ (i := 5) (N := some 97) (v := ?_) (a' := ?_) #[true, true, false, false, false, true, false, false, false, false, false, false, false] rfl rfl (any_of HT_.out (by kernel_rfl)) (fun _ _ _ h => h) (Or.inl ⟨by rfl, ?_⟩) ?_ ?_
                                            rotate_left
                                            · intro w'
                                              go_simp
                                              with_reducible rfl
                                            rotate_left
                                            · simp only [Act.put, List.setIfInBounds_toArray, List.set_cons_zero, List.set_cons_succ, i64_w, i32_w]
                                              rfl
                                            refine pure_ (i := 6) (N := some 98) (v := ?_) (a' := ?_) #[true, true, false, false, false, true, true, false, false, false, false, false, false] rfl rfl (any_of HT_.out (by kernel_rfl)) (fun _ _ _ h => h) (Or.inl ⟨by rfl, ?_⟩) ?_ ?_
                                            rotate_left
                                            · intro w'
                                              go_simp
                                              with_reducible rfl
                                            rotate_left
                                            · simp only [Act.put, List.setIfInBounds_toArray, List.set_cons_zero, List.set_cons_succ, i64_w, i32_w]
                                              rfl
                                            refine take_ (i := 2) (N := some 94) (v := ?_) (a' := ?_) #[true, true, true, false, false, true, true, false, false, false, false, false, false] rfl rfl (take_ofW HT_.out HW_.out (by kernel_rfl)) (fun _ _ _ h => h) (Or.inl ⟨by rfl, ?_⟩) hHeld ?_ ?_
                                            rotate_left
                                            · rintro w' ⟨s0, s1⟩
                                              go_simp
                                              with_reducible rfl
                                            rotate_left
                                            · simp only [Act.put, List.setIfInBounds_toArray, List.set_cons_zero, List.set_cons_succ, i64_w, i32_w]
                                              rfl
                                            refine pure_ (i := 3) (N := some 95) (v := ?_) (a' := ?_) #[true, true, true, true, false, true, true, false, false, false, false, false, false] rfl rfl (any_of HT_.out (by kernel_rfl)) (fun _ _ _ h => h) (Or.inl ⟨by rfl, ?_⟩) ?_ ?_
                                            rotate_left
                                            · intro w'
                                              go_simp
                                              with_reducible rfl
                                            rotate_left
                                            · simp only [Act.put, List.setIfInBounds_toArray, List.set_cons_zero, List.set_cons_succ, i64_w, i32_w]
                                              rfl
                                            refine pure_ (i := 4) (N := some 96) (v := ?_) (a' := ?_) #[true, true, true, true, true, true, true, false, false, false, false, false, false] rfl rfl (any_of HT_.out (by kernel_rfl)) (fun _ _ _ h => h) (Or.inl ⟨by rfl, ?_⟩) ?_ ?_
                                            rotate_left
                                            · intro w'
                                              go_simp
                                              with_reducible rfl
                                            rotate_left
                                            · simp only [Act.put, List.setIfInBounds_toArray, List.set_cons_zero, List.set_cons_succ, i64_w, i32_w]
                                              rfl
                                            refine take_ (i := 7) (N := some 99) (v := ?_) (a' := ?_) #[true, true, true, true, true, true, true, true, false, false, false, false, false] rfl rfl (take_ofW HT_.out HW_.out (by kernel_rfl)) (fun _ _ _ h => h) (Or.inl ⟨by rfl, ?_⟩) hHeld ?_ ?_
                                            rotate_left
                                            · rintro w' ⟨s0, s1⟩
                                              go_simp
                                              with_reducible rfl
                                            rotate_left
                                            · simp only [Act.put, List.setIfInBounds_toArray, List.set_cons_zero, List.set_cons_succ, i64_w, i32_w]
                                              rfl
                                            refine pure_ (i := 8) (N := some 100) (v := ?_) (a' := ?_) #[true, true, true, true, true, true, true, true, true, false, false, false, false] rfl rfl (any_of HT_.out (by kernel_rfl)) (fun _ _ _ h => h) (Or.inl ⟨by rfl, ?_⟩) ?_ ?_
                                            rotate_left
                                            · intro w'
                                              go_simp
                                              with_reducible rfl
                                            rotate_left
                                            · simp only [Act.put, List.setIfInBounds_toArray, List.set_cons_zero, List.set_cons_succ, i64_w, i32_w]
                                              rfl
                                            refine pure_ (i := 9) (N := some 101) (v := ?_) (a' := ?_) #[true, true, true, true, true, true, true, true, true, true, false, false, false] rfl rfl (any_of HT_.out (by kernel_rfl)) (fun _ _ _ h => h) (Or.inl ⟨by rfl, ?_⟩) ?_ ?_
                                            rotate_left
                                            · intro w'
                                              go_simp
                                              with_reducible rfl
                                            rotate_left
                                            · simp only [Act.put, List.setIfInBounds_toArray, List.set_cons_zero, List.set_cons_succ, i64_w, i32_w]
                                              rfl
                                            refine pure_ (i := 10) (N := some 102) (v := ?_) (a' := ?_) #[true, true, true, true, true, true, true, true, true, true, true, false, false] rfl rfl (any_of HT_.out (by kernel_rfl)) (fun _ _ _ h => h) (Or.inl ⟨by rfl, ?_⟩) ?_ ?_
                                            rotate_left
                                            · intro w'
                                              go_simp
                                              with_reducible rfl
                                            rotate_left
                                            · simp only [Act.put, List.setIfInBounds_toArray, List.set_cons_zero, List.set_cons_succ, i64_w, i32_w]
                                              rfl
                                            refine pure_ (i := 11) (N := some 103) (v := ?_) (a' := ?_) #[true, true, true, true, true, true, true, true, true, true, true, true, false] rfl rfl (any_of HT_.out (by kernel_rfl)) (fun _ _ _ h => h) (Or.inl ⟨by rfl, ?_⟩) ?_ ?_
                                            rotate_left
                                            · intro w'
                                              go_simp
                                              with_reducible rfl
                                            rotate_left
                                            · simp only [Act.put, List.setIfInBounds_toArray, List.set_cons_zero, List.set_cons_succ, i64_w, i32_w]
                                              rfl
                                            refine one_ (i := 12) (N := none) #[true, true, true, true, true, true, true, true, true, true, true, true, true] rfl rfl (one_of HT_.out (by kernel_rfl)) (by decide) (fun K hK => ?_)
                                            have hs50 : w49.cell? ⟨gb186, 9, none⟩ = some (.int .u16 t184) := (blk_cell BK186.out 9).trans rfl
                                            have hfs50 := blk_frozen BK186.out 9
                                            have hns50_0 := NB173_186.out
                                            have hms50_0 := NB186_173.out
                                            refine skip_ (w1 := ?_) (by rfl) rfl ?_ ?_
                                            rotate_left
                                            · go_simp
                                              rfl
                                            refine hK.out _ _ ⟨((cell_far (p := ⟨gb186, _, none⟩) (by first | exact Nat.ne_of_lt (Nat.lt_of_lt_of_le (by have := World.block_lt_of_cell? _ _ hw204_0; first | rwa [add_block] at this | exact this) GW186.out) | (rw [add_block]; exact Nat.ne_of_lt (Nat.lt_of_lt_of_le (by have := World.block_lt_of_cell? _ _ hw204_0; first | rwa [add_block] at this | exact this) GW186.out)) | (show (Addr.add _ _).block ≠ _; rw [add_block]; exact Nat.ne_of_lt (Nat.lt_of_lt_of_le (by have := World.block_lt_of_cell? _ _ hw204_0; first | rwa [add_block] at this | exact this) GW186.out)) | (dsimp only; exact Nat.ne_of_lt (Nat.lt_of_lt_of_le (by have := World.block_lt_of_cell? _ _ hw204_0; first | rwa [add_block] at this | exact this) GW186.out))) _).trans (hHeld.1)), ((cell_far (p := ⟨gb186, _, none⟩) (by first | exact Nat.ne_of_lt (Nat.lt_of_lt_of_le (by have := World.block_lt_of_cell? _ _ hw205_0; first | rwa [add_block] at this | exact this) GW186.out) | (rw [add_block]; exact Nat.ne_of_lt (Nat.lt_of_lt_of_le (by have := World.block_lt_of_cell? _ _ hw205_0; first | rwa [add_block] at this | exact this) GW186.out)) | (show (Addr.add _ _).block ≠ _; rw [add_block]; exact Nat.ne_of_lt (Nat.lt_of_lt_of_le (by have := World.block_lt_of_cell? _ _ hw205_0; first | rwa [add_block] at this | exact this) GW186.out)) | (dsimp only; exact Nat.ne_of_lt (Nat.lt_of_lt_of_le (by have := World.block_lt_of_cell? _ _ hw205_0; first | rwa [add_block] at this | exact this) GW186.out))) _).trans (hHeld.2))⟩ (fun hHeld => ?_)
                                            clear hK K
                                            refine done_ (done_of HT_.out (by kernel_rfl)) ?_
                                            have hcz51_0 : w49.cell? ⟨gb186, 0, none⟩ = some (.string x187000_2) := (blk_cell BK186.out 0).trans rfl
                                            have hcz51_1 : w49.cell? ⟨gb186, 1, none⟩ = some (.int .u8 t176) := (blk_cell BK186.out 1).trans rfl
                                            have hcz51_2 : w49.cell? ⟨gb186, 2, none⟩ = some (.int .i64 t177) := (blk_cell BK186.out 2).trans rfl
                                            have hcz51_3 : w49.cell? ⟨gb186, 3, none⟩ = some (.bool true) := (blk_cell BK186.out 3).trans rfl
                                            have hcz51_4 : w49.cell? ⟨gb186, 4, none⟩ = some (.bool t179) := (blk_cell BK186.out 4).trans rfl
                                            have hcz51_5 : w49.cell? ⟨gb186, 5, none⟩ = some (.bool t180) := (blk_cell BK186.out 5).trans rfl
                                            have hcz51_6 : w49.cell? ⟨gb186, 6, none⟩ = some (.int .i64 (wrap64 (Int.tdiv t199 16384))) := (blk_cell BK186.out 6).trans rfl
                                            have hcz51_7 : w49.cell? ⟨gb186, 7, none⟩ = some (.int .i64 (rd y200 (rd l0 329))) := (blk_cell BK186.out 7).trans rfl
                                            have hcz51_8 : w49.cell? ⟨gb186, 8, none⟩ = some (.int .u8 t190) := (blk_cell BK186.out 8).trans rfl
                                            have hcz51_9 : w49.cell? ⟨gb186, 9, none⟩ = some (.int .u16 t184) := (blk_cell BK186.out 9).trans rfl
                                            have hfz51_0 := blk_frozen BK186.out 0
                                            have hfz51_1 := blk_frozen BK186.out 1
                                            have hfz51_2 := blk_frozen BK186.out 2
                                            have hfz51_3 := blk_frozen BK186.out 3
                                            have hfz51_4 := blk_frozen BK186.out 4
                                            have hfz51_5 := blk_frozen BK186.out 5
                                            have hfz51_6 := blk_frozen BK186.out 6
                                            have hfz51_7 := blk_frozen BK186.out 7
                                            have hfz51_8 := blk_frozen BK186.out 8
                                            have hfz51_9 := blk_frozen BK186.out 9
                                            have hcz52_0 : w49.cell? ⟨gb173, 0, none⟩ = some (.string (⟨#[]⟩ : ByteArray)) := (blk_cell BK173.out 0).trans rfl
                                            have hcz52_1 : w49.cell? ⟨gb173, 1, none⟩ = some (.int .u8 0) := (blk_cell BK173.out 1).trans rfl
                                            have hcz52_2 : w49.cell? ⟨gb173, 2, none⟩ = some (.int .i64 0) := (blk_cell BK173.out 2).trans rfl
                                            have hcz52_3 : w49.cell? ⟨gb173, 3, none⟩ = some (.bool false) := (blk_cell BK173.out 3).trans rfl
                                            have hcz52_4 : w49.cell? ⟨gb173, 4, none⟩ = some (.bool false) := (blk_cell BK173.out 4).trans rfl
                                            have hcz52_5 : w49.cell? ⟨gb173, 5, none⟩ = some (.bool false) := (blk_cell BK173.out 5).trans rfl
                                            have hcz52_6 : w49.cell? ⟨gb173, 6, none⟩ = some (.int .i64 0) := (blk_cell BK173.out 6).trans rfl
                                            have hcz52_7 : w49.cell? ⟨gb173, 7, none⟩ = some (.int .i64 0) := (blk_cell BK173.out 7).trans rfl
                                            have hcz52_8 : w49.cell? ⟨gb173, 8, none⟩ = some (.int .u8 0) := (blk_cell BK173.out 8).trans rfl
                                            have hcz52_9 : w49.cell? ⟨gb173, 9, none⟩ = some (.int .u16 0) := (blk_cell BK173.out 9).trans rfl
                                            have hfz52_0 := blk_frozen BK173.out 0
                                            have hfz52_1 := blk_frozen BK173.out 1
                                            have hfz52_2 := blk_frozen BK173.out 2
                                            have hfz52_3 := blk_frozen BK173.out 3
                                            have hfz52_4 := blk_frozen BK173.out 4
                                            have hfz52_5 := blk_frozen BK173.out 5
                                            have hfz52_6 := blk_frozen BK173.out 6
                                            have hfz52_7 := blk_frozen BK173.out 7
                                            have hfz52_8 := blk_frozen BK173.out 8
                                            have hfz52_9 := blk_frozen BK173.out 9
                                            try go_wp2
                                            refine bodyPost_ret (results_ct rfl _ _ gb173 26 #[.string x187000_2, .int .u8 t176, .int .i64 t177, .bool true, .bool t179, .bool t180, .int .i64 (wrap64 (Int.tdiv t199 16384)), .int .i64 (rd y200 (rd l0 329)), .int .u8 t190, .int .u16 (IntKind.u16.wrap (wrap64 ((wrap64 (256 * (wrap64 (rd l0 334)))) + (wrap64 (rd l0 335)))))] (0, 0) _ rfl (by (with_reducible repeat (first | refine blk_drewN ?_ _ | refine blk_drew ?_ | refine blk_alloc ?_ _)); refine blk_put (cs := #[.string x187000_2, .int .u8 t176, .int .i64 t177, .bool true, .bool t179, .bool t180, .int .i64 (wrap64 (Int.tdiv t199 16384)), .int .i64 (rd y200 (rd l0 329)), .int .u8 t190, .int .u16 0]) ?_ 9 _ rfl; (with_reducible repeat (first | refine blk_drewN ?_ _ | refine blk_drew ?_ | refine blk_alloc ?_ _)); refine blk_put (cs := #[.string x187000_2, .int .u8 t176, .int .i64 t177, .bool true, .bool t179, .bool t180, .int .i64 (wrap64 (Int.tdiv t199 16384)), .int .i64 (rd y200 (rd l0 329)), .int .u8 0, .int .u16 0]) ?_ 8 _ rfl; (with_reducible repeat (first | refine blk_drewN ?_ _ | refine blk_drew ?_ | refine blk_alloc ?_ _)); refine blk_put (cs := #[.string x187000_2, .int .u8 t176, .int .i64 t177, .bool true, .bool t179, .bool t180, .int .i64 (wrap64 (Int.tdiv t199 16384)), .int .i64 0, .int .u8 0, .int .u16 0]) ?_ 7 _ rfl; (with_reducible repeat (first | refine blk_drewN ?_ _ | refine blk_drew ?_ | refine blk_alloc ?_ _)); refine blk_put (cs := #[.string x187000_2, .int .u8 t176, .int .i64 t177, .bool true, .bool t179, .bool t180, .int .i64 0, .int .i64 0, .int .u8 0, .int .u16 0]) ?_ 6 _ rfl; (with_reducible repeat (first | refine blk_drewN ?_ _ | refine blk_drew ?_ | refine blk_alloc ?_ _)); refine blk_put (cs := #[.string x187000_2, .int .u8 t176, .int .i64 t177, .bool true, .bool t179, .bool false, .int .i64 0, .int .i64 0, .int .u8 0, .int .u16 0]) ?_ 5 _ rfl; (with_reducible repeat (first | refine blk_drewN ?_ _ | refine blk_drew ?_ | refine blk_alloc ?_ _)); refine blk_put (cs := #[.string x187000_2, .int .u8 t176, .int .i64 t177, .bool true, .bool false, .bool false, .int .i64 0, .int .i64 0, .int .u8 0, .int .u16 0]) ?_ 4 _ rfl; (with_reducible repeat (first | refine blk_drewN ?_ _ | refine blk_drew ?_ | refine blk_alloc ?_ _)); refine blk_put (cs := #[.string x187000_2, .int .u8 t176, .int .i64 t177, .bool false, .bool false, .bool false, .int .i64 0, .int .i64 0, .int .u8 0, .int .u16 0]) ?_ 3 _ rfl; (with_reducible repeat (first | refine blk_drewN ?_ _ | refine blk_drew ?_ | refine blk_alloc ?_ _)); refine blk_put (cs := #[.string x187000_2, .int .u8 t176, .int .i64 0, .bool false, .bool false, .bool false, .int .i64 0, .int .i64 0, .int .u8 0, .int .u16 0]) ?_ 2 _ rfl; (with_reducible repeat (first | refine blk_drewN ?_ _ | refine blk_drew ?_ | refine blk_alloc ?_ _)); refine blk_put (cs := #[.string x187000_2, .int .u8 0, .int .i64 0, .bool false, .bool false, .bool false, .int .i64 0, .int .i64 0, .int .u8 0, .int .u16 0]) ?_ 1 _ rfl; (with_reducible repeat (first | refine blk_drewN ?_ _ | refine blk_drew ?_ | refine blk_alloc ?_ _)); refine blk_put (cs := #[.string (⟨#[]⟩ : ByteArray), .int .u8 0, .int .i64 0, .bool false, .bool false, .bool false, .int .i64 0, .int .i64 0, .int .u8 0, .int .u16 0]) ?_ 0 _ rfl; (with_reducible repeat (first | refine blk_drewN ?_ _ | refine blk_drew ?_ | refine blk_alloc ?_ _)); refine blk_far ?_ NB173_186.out _; (with_reducible repeat (first | refine blk_drewN ?_ _ | refine blk_drew ?_ | refine blk_alloc ?_ _)); exact BK173.out) Try.underlying26 rfl (by kernel_rfl)) rfl ?_
                                            exact ⟨by first | rfl | (simp [errW_none, errW_some] <;> rfl) | (simp [*, errW_none, errW_some] <;> rfl), by repeat (first | (with_reducible first | exact HB.out | apply below_alloc | apply pw_below_drewN | apply below_drew1 | refine below_set ?_ GE173.out | refine below_set ?_ GE186.out) | exact HB.out)⟩
                                          · rw [if_neg c41] at H
                                            exact absurd H (by simp)
                                        · rw [if_neg c40] at H
                                          exact absurd H (by simp)
                                      · rw [if_neg c39] at H
                                        exact absurd H (by simp)
                                    · rw [if_neg c38] at H
                                      exact absurd H (by simp)
                                  · replace c37 := Bool.eq_false_iff.mpr c37
                                    subst c37
                                    have H1 : (if 334 < (l0.length : Int) then (if 335 < (l0.length : Int) then (some (x187000_2, t176, t177, false, t179, t180, wrap64 (Int.tdiv t199 16384), t182, t190, IntKind.u16.wrap (wrap64 ((wrap64 (256 * (wrap64 (rd l0 334)))) + (wrap64 (rd l0 335)))), 0)) else (none)) else (none)) = some (r1, r2, r3, r4, r5, r6, r7, r8, r9, r10, r11) := by rw [if_neg (show ¬ (false = true) by decide)] at H; exact H
                                    clear H
                                    have H := H1
                                    clear H1
                                    by_cases c53 : 334 < (l0.length : Int)
                                    · rw [if_pos c53] at H
                                      have c53b0 : decide (334 < (l0.length : Int)) = true := decide_eq_true c53
                                      have c53b1 : decide (334 < l0.length) = true := decide_eq_true (by omega)
                                      clear c53
                                      by_cases c54 : 335 < (l0.length : Int)
                                      · rw [if_pos c54] at H
                                        have c54b0 : decide (335 < (l0.length : Int)) = true := decide_eq_true c54
                                        have c54b1 : decide (335 < l0.length) = true := decide_eq_true (by omega)
                                        clear c54
                                        simp only [Option.some.injEq, Prod.mk.injEq] at H
                                        obtain ⟨rfl, rfl, rfl, rfl, rfl, rfl, rfl, rfl, rfl, rfl, rfl⟩ := H
                                        have p193 : 0 ≤ (x10_2 : Int) := of_decide_eq_true (by first | (with_reducible assumption) | assumption)
                                        have q193 : x10_2 < (l0.length : Int) := of_decide_eq_true (by first | (with_reducible assumption) | assumption)
                                        obtain ⟨ad193, e193, hx193_0⟩ := Kd.at_int HR0.out x10_2 p193 q193
                                        obtain rfl : ad174 = ad193 := (by injection e193)
                                        replace hx193_0 := (HB.out.cell (World.block_lt_of_cell? w _ hx193_0)).trans hx193_0
                                        replace p193 := eq_true p193
                                        replace q193 := eq_true q193
                                        try go_wp2_with (first | (go_at_call 27; (with_reducible refine (whirligigref07_signs.calls (rd l0 x10_2) false _ A28.out).mono ?_); rintro e w' ⟨rfl, ⟨nd, rfl⟩⟩; (try (rw [drewN_self wr]; generalize hq_ : World.drewN wr _ = wr; have n0_ : Aside0 (wr.heap[gb173]? = some (.cells #[.string (⟨#[]⟩ : ByteArray), .int .u8 0, .int .i64 0, .bool false, .bool false, .bool false, .int .i64 0, .int .i64 0, .int .u8 0, .int .u16 0] 26 (0, 0))) := ⟨by rw [← hq_]; exact (by (with_reducible repeat (first | refine blk_drewN ?_ _ | refine blk_drew ?_ | refine blk_alloc ?_ _)); exact BK173.out)⟩; have n1_ : Aside0 (wr.heap[gb186]? = some (.cells #[.string x187000_2, .int .u8 t176, .int .i64 t177, .bool false, .bool t179, .bool t180, .int .i64 t181, .int .i64 t182, .int .u8 t183, .int .u16 t184] 26 (0, 0))) := ⟨by rw [← hq_]; exact (by (with_reducible repeat (first | refine blk_drewN ?_ _ | refine blk_drew ?_ | refine blk_alloc ?_ _)); exact BK186.out)⟩; have n2_ : Aside0 (Below w.heap.size w wr) := ⟨by rw [← hq_]; exact (by repeat (first | (with_reducible first | exact HB.out | apply below_alloc | apply pw_below_drewN | apply below_drew1 | refine below_set ?_ GE173.out | refine below_set ?_ GE186.out) | exact HB.out))⟩; clear BK173 BK186 HB hq_; have BK173 := n0_; have BK186 := n1_; have HB := n2_; clear n0_ n1_ n2_))) | ((with_reducible refine gate_callee (f := 26) rfl ?_); refine goesL_ (some 79) rfl rfl Try.func26 (by kernel_rfl) rfl #[.int .u8 (rd l0 328)] rfl (by (try simp only [List.map_toArray, List.map_cons, List.map_nil]); first | done | rfl | (simp only [List.length_drop, List.length_take]; rfl)) ?_; (with_reducible refine (whirligigref07_Most.calls k2 (rd l0 328) t199 _ A36.out).mono ?_); rintro e w' ⟨rfl, ⟨nd, rfl⟩⟩; refine ⟨_, rfl, ?_⟩; (try (rw [drewN_self wr]; generalize hq_ : World.drewN wr _ = wr; have n0_ : Aside0 (wr.heap[gb173]? = some (.cells #[.string (⟨#[]⟩ : ByteArray), .int .u8 0, .int .i64 0, .bool false, .bool false, .bool false, .int .i64 0, .int .i64 0, .int .u8 0, .int .u16 0] 26 (0, 0))) := ⟨by rw [← hq_]; exact (by (with_reducible repeat (first | refine blk_drewN ?_ _ | refine blk_drew ?_ | refine blk_alloc ?_ _)); exact BK173.out)⟩; have n1_ : Aside0 (wr.heap[gb186]? = some (.cells #[.string x187000_2, .int .u8 t176, .int .i64 t177, .bool false, .bool t179, .bool t180, .int .i64 t181, .int .i64 t182, .int .u8 t183, .int .u16 t184] 26 (0, 0))) := ⟨by rw [← hq_]; exact (by (with_reducible repeat (first | refine blk_drewN ?_ _ | refine blk_drew ?_ | refine blk_alloc ?_ _)); exact BK186.out)⟩; have n2_ : Aside0 (Below w.heap.size w wr) := ⟨by rw [← hq_]; exact (by repeat (first | (with_reducible first | exact HB.out | apply below_alloc | apply pw_below_drewN | apply below_drew1 | refine below_set ?_ GE173.out | refine below_set ?_ GE186.out) | exact HB.out))⟩; clear BK173 BK186 HB hq_; have BK173 := n0_; have BK186 := n1_; have HB := n2_; clear n0_ n1_ n2_)); have hnb55 := NB186_173.out; have hnc55 := NB173_186.out; have hcz56_0 : wr.cell? ⟨gb186, 0, none⟩ = some (.string x187000_2) := (blk_cell BK186.out 0).trans rfl; have hcz56_1 : wr.cell? ⟨gb186, 1, none⟩ = some (.int .u8 t176) := (blk_cell BK186.out 1).trans rfl; have hcz56_2 : wr.cell? ⟨gb186, 2, none⟩ = some (.int .i64 t177) := (blk_cell BK186.out 2).trans rfl; have hcz56_3 : wr.cell? ⟨gb186, 3, none⟩ = some (.bool false) := (blk_cell BK186.out 3).trans rfl; have hcz56_4 : wr.cell? ⟨gb186, 4, none⟩ = some (.bool t179) := (blk_cell BK186.out 4).trans rfl; have hcz56_5 : wr.cell? ⟨gb186, 5, none⟩ = some (.bool t180) := (blk_cell BK186.out 5).trans rfl; have hcz56_6 : wr.cell? ⟨gb186, 6, none⟩ = some (.int .i64 t181) := (blk_cell BK186.out 6).trans rfl; have hcz56_7 : wr.cell? ⟨gb186, 7, none⟩ = some (.int .i64 t182) := (blk_cell BK186.out 7).trans rfl; have hcz56_8 : wr.cell? ⟨gb186, 8, none⟩ = some (.int .u8 t183) := (blk_cell BK186.out 8).trans rfl; have hcz56_9 : wr.cell? ⟨gb186, 9, none⟩ = some (.int .u16 t184) := (blk_cell BK186.out 9).trans rfl; have hfz56_0 := blk_frozen BK186.out 0; have hfz56_1 := blk_frozen BK186.out 1; have hfz56_2 := blk_frozen BK186.out 2; have hfz56_3 := blk_frozen BK186.out 3; have hfz56_4 := blk_frozen BK186.out 4; have hfz56_5 := blk_frozen BK186.out 5; have hfz56_6 := blk_frozen BK186.out 6; have hfz56_7 := blk_frozen BK186.out 7; have hfz56_8 := blk_frozen BK186.out 8; have hfz56_9 := blk_frozen BK186.out 9))
                                        have n0_ : Aside0 (((wr.setCell ⟨gb186, 6, none⟩ (.int .i64 (wrap64 (Int.tdiv t199 16384)))).setCell ⟨gb186, 8, none⟩ (.int .u8 t190)).heap[gb173]? = some (.cells #[.string (⟨#[]⟩ : ByteArray), .int .u8 0, .int .i64 0, .bool false, .bool false, .bool false, .int .i64 0, .int .i64 0, .int .u8 0, .int .u16 0] 26 (0, 0))) := ⟨by (with_reducible repeat (first | refine blk_drewN ?_ _ | refine blk_drew ?_ | refine blk_alloc ?_ _)); refine blk_far ?_ NB173_186.out _; (with_reducible repeat (first | refine blk_drewN ?_ _ | refine blk_drew ?_ | refine blk_alloc ?_ _)); refine blk_far ?_ NB173_186.out _; (with_reducible repeat (first | refine blk_drewN ?_ _ | refine blk_drew ?_ | refine blk_alloc ?_ _)); exact BK173.out⟩
                                        have n1_ : Aside0 (((wr.setCell ⟨gb186, 6, none⟩ (.int .i64 (wrap64 (Int.tdiv t199 16384)))).setCell ⟨gb186, 8, none⟩ (.int .u8 t190)).heap[gb186]? = some (.cells #[.string x187000_2, .int .u8 t176, .int .i64 t177, .bool false, .bool t179, .bool t180, .int .i64 (wrap64 (Int.tdiv t199 16384)), .int .i64 t182, .int .u8 t190, .int .u16 t184] 26 (0, 0))) := ⟨by (with_reducible repeat (first | refine blk_drewN ?_ _ | refine blk_drew ?_ | refine blk_alloc ?_ _)); refine blk_put (cs := #[.string x187000_2, .int .u8 t176, .int .i64 t177, .bool false, .bool t179, .bool t180, .int .i64 (wrap64 (Int.tdiv t199 16384)), .int .i64 t182, .int .u8 t183, .int .u16 t184]) ?_ 8 _ rfl; (with_reducible repeat (first | refine blk_drewN ?_ _ | refine blk_drew ?_ | refine blk_alloc ?_ _)); refine blk_put (cs := #[.string x187000_2, .int .u8 t176, .int .i64 t177, .bool false, .bool t179, .bool t180, .int .i64 t181, .int .i64 t182, .int .u8 t183, .int .u16 t184]) ?_ 6 _ rfl; (with_reducible repeat (first | refine blk_drewN ?_ _ | refine blk_drew ?_ | refine blk_alloc ?_ _)); exact BK186.out⟩
                                        have n2_ : Aside0 (Below w.heap.size w ((wr.setCell ⟨gb186, 6, none⟩ (.int .i64 (wrap64 (Int.tdiv t199 16384)))).setCell ⟨gb186, 8, none⟩ (.int .u8 t190))) := ⟨by repeat (first | (with_reducible first | exact HB.out | apply below_alloc | apply pw_below_drewN | apply below_drew1 | refine below_set ?_ GE173.out | refine below_set ?_ GE186.out) | exact HB.out)⟩
                                        (try clear BK173)
                                        (try clear BK186)
                                        (try clear HB)
                                        generalize ((wr.setCell ⟨gb186, 6, none⟩ (.int .i64 (wrap64 (Int.tdiv t199 16384)))).setCell ⟨gb186, 8, none⟩ (.int .u8 t190)) = w57 at n0_ n1_ n2_ ⊢
                                        have BK173 := n0_
                                        have BK186 := n1_
                                        have HB := n2_
                                        clear n0_ n1_ n2_
                                        have n0_ := Aside0.mk (blk_drew BK173.out)
                                        have n1_ := Aside0.mk (blk_drew BK186.out)
                                        have n2_ := Aside0.mk (below_drew1 HB.out)
                                        clear BK173
                                        clear BK186
                                        clear HB
                                        have BK173 := n0_
                                        have BK186 := n1_
                                        have HB := n2_
                                        clear n0_ n1_ n2_
                                        have p206 : 0 ≤ (334 : Int) := (by omega)
                                        have q206 : 334 < (l0.length : Int) := of_decide_eq_true (by first | (with_reducible assumption) | assumption)
                                        obtain ⟨ad206, e206, hx206_0⟩ := Kd.at_int HR0.out 334 p206 q206
                                        have hw206_0 := hx206_0
                                        (try rw [show ((334 : Int)).toNat = 334 from rfl] at hw206_0)
                                        (try rw [show 334 * 1 = 334 from rfl] at hw206_0)
                                        (try simp only [Nat.reduceMul, Nat.reduceEqDiff, Go.Addr.add, ↓reduceIte] at hw206_0)
                                        obtain rfl : ad174 = ad206 := (by injection e206)
                                        (try simp only [show (334 : Int).toNat = 334 from rfl, Nat.reduceMul, Nat.reduceEqDiff, Go.Addr.add, ↓reduceIte] at hx206_0)
                                        have qi206 : (334 < l0.length) = True := eq_true (by omega)
                                        (try rw [show ((334 : Int)).toNat = 334 from rfl] at hx206_0)
                                        replace hx206_0 := (HB.out.cell (World.block_lt_of_cell? w _ hx206_0)).trans hx206_0
                                        replace p206 := eq_true p206
                                        replace q206 := eq_true q206
                                        have p207 : 0 ≤ (335 : Int) := (by omega)
                                        have q207 : 335 < (l0.length : Int) := of_decide_eq_true (by first | (with_reducible assumption) | assumption)
                                        obtain ⟨ad207, e207, hx207_0⟩ := Kd.at_int HR0.out 335 p207 q207
                                        have hw207_0 := hx207_0
                                        (try rw [show ((335 : Int)).toNat = 335 from rfl] at hw207_0)
                                        (try rw [show 335 * 1 = 335 from rfl] at hw207_0)
                                        (try simp only [Nat.reduceMul, Nat.reduceEqDiff, Go.Addr.add, ↓reduceIte] at hw207_0)
                                        obtain rfl : ad174 = ad207 := (by injection e207)
                                        (try simp only [show (335 : Int).toNat = 335 from rfl, Nat.reduceMul, Nat.reduceEqDiff, Go.Addr.add, ↓reduceIte] at hx207_0)
                                        have qi207 : (335 < l0.length) = True := eq_true (by omega)
                                        (try rw [show ((335 : Int)).toNat = 335 from rfl] at hx207_0)
                                        replace hx207_0 := (HB.out.cell (World.block_lt_of_cell? w _ hx207_0)).trans hx207_0
                                        replace p207 := eq_true p207
                                        replace q207 := eq_true q207
                                        refine start_ (n := 13) (S := fun w' => w'.cell? ⟨ad174.block, ad174.off + 334, none⟩ = some (.int .u8 (rd l0 334)) ∧ w'.cell? ⟨ad174.block, ad174.off + 335, none⟩ = some (.int .u8 (rd l0 335))) (ds := []) #[false, false, false, false, false, false, false, false, false, false, false, false, false] (by kernel_rfl) rfl rfl ⟨((HB.out.cell (World.block_lt_of_cell? w _ hw206_0)).trans hw206_0), ((HB.out.cell (World.block_lt_of_cell? w _ hw207_0)).trans hw207_0)⟩ (fun hHeld => ?_); refine with_tabW whirligigref07_Parse.tab22 whirligigref07_Parse.bits22 (fun HT_ HW_ => ?_)
                                        generalize w57.drew = w58 at BK173 BK186 HB hx206_0 hx207_0 hHeld ⊢
                                        refine pure_ (i := 0) (N := some 92) (v := ?_) (a' := ?_) #[true, false, false, false, false, false, false, false, false, false, false, false, false] rfl rfl (any_of HT_.out (by kernel_rfl)) (fun _ _ _ h => h) (Or.inl ⟨by rfl, ?_⟩) ?_ ?_
                                        rotate_left
                                        · intro w'
                                          go_simp
                                          with_reducible rfl
                                        rotate_left
                                        · simp only [Act.put, List.setIfInBounds_toArray, List.set_cons_zero, List.set_cons_succ, i64_w, i32_w]
                                          rfl
                                        refine pure_ (i := 1) (N := some 93) (v := ?_) (a' := ?_) #[true, true, false, false, false, false, false, false, false, false, false, false, false] rfl rfl (any_of HT_.out (by kernel_rfl)) (fun _ _ _ h => h) (Or.inl ⟨by rfl, ?_⟩) ?_ ?_
                                        rotate_left
                                        · intro w'
                                          go_simp
                                          with_reducible rfl
                                        rotate_left
                                        · simp only [Act.put, List.setIfInBounds_toArray, List.set_cons_zero, List.set_cons_succ, i64_w, i32_w]
                                          rfl
                                        refine pure_ (i := 5) (N := some 97) (v := ?_) (a' := ?_) #[true, true, false, false, false, true, false, false, false, false, false, false, false] rfl rfl (any_of HT_.out (by kernel_rfl)) (fun _ _ _ h => h) (Or.inl ⟨by rfl, ?_⟩) ?_ ?_
                                        rotate_left
                                        · intro w'
                                          go_simp
                                          with_reducible rfl
                                        rotate_left
                                        · simp only [Act.put, List.setIfInBounds_toArray, List.set_cons_zero, List.set_cons_succ, i64_w, i32_w]
                                          rfl
                                        refine pure_ (i := 6) (N := some 98) (v := ?_) (a' := ?_) #[true, true, false, false, false, true, true, false, false, false, false, false, false] rfl rfl (any_of HT_.out (by kernel_rfl)) (fun _ _ _ h => h) (Or.inl ⟨by rfl, ?_⟩) ?_ ?_
                                        rotate_left
                                        · intro w'
                                          go_simp
                                          with_reducible rfl
                                        rotate_left
                                        · simp only [Act.put, List.setIfInBounds_toArray, List.set_cons_zero, List.set_cons_succ, i64_w, i32_w]
                                          rfl
                                        refine take_ (i := 2) (N := some 94) (v := ?_) (a' := ?_) #[true, true, true, false, false, true, true, false, false, false, false, false, false] rfl rfl (take_ofW HT_.out HW_.out (by kernel_rfl)) (fun _ _ _ h => h) (Or.inl ⟨by rfl, ?_⟩) hHeld ?_ ?_
                                        rotate_left
                                        · rintro w' ⟨s0, s1⟩
                                          go_simp
                                          with_reducible rfl
                                        rotate_left
                                        · simp only [Act.put, List.setIfInBounds_toArray, List.set_cons_zero, List.set_cons_succ, i64_w, i32_w]
                                          rfl
                                        refine pure_ (i := 3) (N := some 95) (v := ?_) (a' := ?_) #[true, true, true, true, false, true, true, false, false, false, false, false, false] rfl rfl (any_of HT_.out (by kernel_rfl)) (fun _ _ _ h => h) (Or.inl ⟨by rfl, ?_⟩) ?_ ?_
                                        rotate_left
                                        · intro w'
                                          go_simp
                                          with_reducible rfl
                                        rotate_left
                                        · simp only [Act.put, List.setIfInBounds_toArray, List.set_cons_zero, List.set_cons_succ, i64_w, i32_w]
                                          rfl
                                        refine pure_ (i := 4) (N := some 96) (v := ?_) (a' := ?_) #[true, true, true, true, true, true, true, false, false, false, false, false, false] rfl rfl (any_of HT_.out (by kernel_rfl)) (fun _ _ _ h => h) (Or.inl ⟨by rfl, ?_⟩) ?_ ?_
                                        rotate_left
                                        · intro w'
                                          go_simp
                                          with_reducible rfl
                                        rotate_left
                                        · simp only [Act.put, List.setIfInBounds_toArray, List.set_cons_zero, List.set_cons_succ, i64_w, i32_w]
                                          rfl
                                        refine take_ (i := 7) (N := some 99) (v := ?_) (a' := ?_) #[true, true, true, true, true, true, true, true, false, false, false, false, false] rfl rfl (take_ofW HT_.out HW_.out (by kernel_rfl)) (fun _ _ _ h => h) (Or.inl ⟨by rfl, ?_⟩) hHeld ?_ ?_
                                        rotate_left
                                        · rintro w' ⟨s0, s1⟩
                                          go_simp
                                          with_reducible rfl
                                        rotate_left
                                        · simp only [Act.put, List.setIfInBounds_toArray, List.set_cons_zero, List.set_cons_succ, i64_w, i32_w]
                                          rfl
                                        refine pure_ (i := 8) (N := some 100) (v := ?_) (a' := ?_) #[true, true, true, true, true, true, true, true, true, false, false, false, false] rfl rfl (any_of HT_.out (by kernel_rfl)) (fun _ _ _ h => h) (Or.inl ⟨by rfl, ?_⟩) ?_ ?_
                                        rotate_left
                                        · intro w'
                                          go_simp
                                          with_reducible rfl
                                        rotate_left
                                        · simp only [Act.put, List.setIfInBounds_toArray, List.set_cons_zero, List.set_cons_succ, i64_w, i32_w]
                                          rfl
                                        refine pure_ (i := 9) (N := some 101) (v := ?_) (a' := ?_) #[true, true, true, true, true, true, true, true, true, true, false, false, false] rfl rfl (any_of HT_.out (by kernel_rfl)) (fun _ _ _ h => h) (Or.inl ⟨by rfl, ?_⟩) ?_ ?_
                                        rotate_left
                                        · intro w'
                                          go_simp
                                          with_reducible rfl
                                        rotate_left
                                        · simp only [Act.put, List.setIfInBounds_toArray, List.set_cons_zero, List.set_cons_succ, i64_w, i32_w]
                                          rfl
                                        refine pure_ (i := 10) (N := some 102) (v := ?_) (a' := ?_) #[true, true, true, true, true, true, true, true, true, true, true, false, false] rfl rfl (any_of HT_.out (by kernel_rfl)) (fun _ _ _ h => h) (Or.inl ⟨by rfl, ?_⟩) ?_ ?_
                                        rotate_left
                                        · intro w'
                                          go_simp
                                          with_reducible rfl
                                        rotate_left
                                        · simp only [Act.put, List.setIfInBounds_toArray, List.set_cons_zero, List.set_cons_succ, i64_w, i32_w]
                                          rfl
                                        refine pure_ (i := 11) (N := some 103) (v := ?_) (a' := ?_) #[true, true, true, true, true, true, true, true, true, true, true, true, false] rfl rfl (any_of HT_.out (by kernel_rfl)) (fun _ _ _ h => h) (Or.inl ⟨by rfl, ?_⟩) ?_ ?_
                                        rotate_left
                                        · intro w'
                                          go_simp
                                          with_reducible rfl
                                        rotate_left
                                        · simp only [Act.put, List.setIfInBounds_toArray, List.set_cons_zero, List.set_cons_succ, i64_w, i32_w]
                                          rfl
                                        refine one_ (i := 12) (N := none) #[true, true, true, true, true, true, true, true, true, true, true, true, true] rfl rfl (one_of HT_.out (by kernel_rfl)) (by decide) (fun K hK => ?_)
                                        have hs59 : w58.cell? ⟨gb186, 9, none⟩ = some (.int .u16 t184) := (blk_cell BK186.out 9).trans rfl
                                        have hfs59 := blk_frozen BK186.out 9
                                        have hns59_0 := NB173_186.out
                                        have hms59_0 := NB186_173.out
                                        refine skip_ (w1 := ?_) (by rfl) rfl ?_ ?_
                                        rotate_left
                                        · go_simp
                                          rfl
                                        refine hK.out _ _ ⟨((cell_far (p := ⟨gb186, _, none⟩) (by first | exact Nat.ne_of_lt (Nat.lt_of_lt_of_le (by have := World.block_lt_of_cell? _ _ hw206_0; first | rwa [add_block] at this | exact this) GW186.out) | (rw [add_block]; exact Nat.ne_of_lt (Nat.lt_of_lt_of_le (by have := World.block_lt_of_cell? _ _ hw206_0; first | rwa [add_block] at this | exact this) GW186.out)) | (show (Addr.add _ _).block ≠ _; rw [add_block]; exact Nat.ne_of_lt (Nat.lt_of_lt_of_le (by have := World.block_lt_of_cell? _ _ hw206_0; first | rwa [add_block] at this | exact this) GW186.out)) | (dsimp only; exact Nat.ne_of_lt (Nat.lt_of_lt_of_le (by have := World.block_lt_of_cell? _ _ hw206_0; first | rwa [add_block] at this | exact this) GW186.out))) _).trans (hHeld.1)), ((cell_far (p := ⟨gb186, _, none⟩) (by first | exact Nat.ne_of_lt (Nat.lt_of_lt_of_le (by have := World.block_lt_of_cell? _ _ hw207_0; first | rwa [add_block] at this | exact this) GW186.out) | (rw [add_block]; exact Nat.ne_of_lt (Nat.lt_of_lt_of_le (by have := World.block_lt_of_cell? _ _ hw207_0; first | rwa [add_block] at this | exact this) GW186.out)) | (show (Addr.add _ _).block ≠ _; rw [add_block]; exact Nat.ne_of_lt (Nat.lt_of_lt_of_le (by have := World.block_lt_of_cell? _ _ hw207_0; first | rwa [add_block] at this | exact this) GW186.out)) | (dsimp only; exact Nat.ne_of_lt (Nat.lt_of_lt_of_le (by have := World.block_lt_of_cell? _ _ hw207_0; first | rwa [add_block] at this | exact this) GW186.out))) _).trans (hHeld.2))⟩ (fun hHeld => ?_)
                                        clear hK K
                                        refine done_ (done_of HT_.out (by kernel_rfl)) ?_
                                        have hcz60_0 : w58.cell? ⟨gb186, 0, none⟩ = some (.string x187000_2) := (blk_cell BK186.out 0).trans rfl
                                        have hcz60_1 : w58.cell? ⟨gb186, 1, none⟩ = some (.int .u8 t176) := (blk_cell BK186.out 1).trans rfl
                                        have hcz60_2 : w58.cell? ⟨gb186, 2, none⟩ = some (.int .i64 t177) := (blk_cell BK186.out 2).trans rfl
                                        have hcz60_3 : w58.cell? ⟨gb186, 3, none⟩ = some (.bool false) := (blk_cell BK186.out 3).trans rfl
                                        have hcz60_4 : w58.cell? ⟨gb186, 4, none⟩ = some (.bool t179) := (blk_cell BK186.out 4).trans rfl
                                        have hcz60_5 : w58.cell? ⟨gb186, 5, none⟩ = some (.bool t180) := (blk_cell BK186.out 5).trans rfl
                                        have hcz60_6 : w58.cell? ⟨gb186, 6, none⟩ = some (.int .i64 (wrap64 (Int.tdiv t199 16384))) := (blk_cell BK186.out 6).trans rfl
                                        have hcz60_7 : w58.cell? ⟨gb186, 7, none⟩ = some (.int .i64 t182) := (blk_cell BK186.out 7).trans rfl
                                        have hcz60_8 : w58.cell? ⟨gb186, 8, none⟩ = some (.int .u8 t190) := (blk_cell BK186.out 8).trans rfl
                                        have hcz60_9 : w58.cell? ⟨gb186, 9, none⟩ = some (.int .u16 t184) := (blk_cell BK186.out 9).trans rfl
                                        have hfz60_0 := blk_frozen BK186.out 0
                                        have hfz60_1 := blk_frozen BK186.out 1
                                        have hfz60_2 := blk_frozen BK186.out 2
                                        have hfz60_3 := blk_frozen BK186.out 3
                                        have hfz60_4 := blk_frozen BK186.out 4
                                        have hfz60_5 := blk_frozen BK186.out 5
                                        have hfz60_6 := blk_frozen BK186.out 6
                                        have hfz60_7 := blk_frozen BK186.out 7
                                        have hfz60_8 := blk_frozen BK186.out 8
                                        have hfz60_9 := blk_frozen BK186.out 9
                                        have hcz61_0 : w58.cell? ⟨gb173, 0, none⟩ = some (.string (⟨#[]⟩ : ByteArray)) := (blk_cell BK173.out 0).trans rfl
                                        have hcz61_1 : w58.cell? ⟨gb173, 1, none⟩ = some (.int .u8 0) := (blk_cell BK173.out 1).trans rfl
                                        have hcz61_2 : w58.cell? ⟨gb173, 2, none⟩ = some (.int .i64 0) := (blk_cell BK173.out 2).trans rfl
                                        have hcz61_3 : w58.cell? ⟨gb173, 3, none⟩ = some (.bool false) := (blk_cell BK173.out 3).trans rfl
                                        have hcz61_4 : w58.cell? ⟨gb173, 4, none⟩ = some (.bool false) := (blk_cell BK173.out 4).trans rfl
                                        have hcz61_5 : w58.cell? ⟨gb173, 5, none⟩ = some (.bool false) := (blk_cell BK173.out 5).trans rfl
                                        have hcz61_6 : w58.cell? ⟨gb173, 6, none⟩ = some (.int .i64 0) := (blk_cell BK173.out 6).trans rfl
                                        have hcz61_7 : w58.cell? ⟨gb173, 7, none⟩ = some (.int .i64 0) := (blk_cell BK173.out 7).trans rfl
                                        have hcz61_8 : w58.cell? ⟨gb173, 8, none⟩ = some (.int .u8 0) := (blk_cell BK173.out 8).trans rfl
                                        have hcz61_9 : w58.cell? ⟨gb173, 9, none⟩ = some (.int .u16 0) := (blk_cell BK173.out 9).trans rfl
                                        have hfz61_0 := blk_frozen BK173.out 0
                                        have hfz61_1 := blk_frozen BK173.out 1
                                        have hfz61_2 := blk_frozen BK173.out 2
                                        have hfz61_3 := blk_frozen BK173.out 3
                                        have hfz61_4 := blk_frozen BK173.out 4
                                        have hfz61_5 := blk_frozen BK173.out 5
                                        have hfz61_6 := blk_frozen BK173.out 6
                                        have hfz61_7 := blk_frozen BK173.out 7
                                        have hfz61_8 := blk_frozen BK173.out 8
                                        have hfz61_9 := blk_frozen BK173.out 9
                                        try go_wp2
                                        refine bodyPost_ret (results_ct rfl _ _ gb173 26 #[.string x187000_2, .int .u8 t176, .int .i64 t177, .bool false, .bool t179, .bool t180, .int .i64 (wrap64 (Int.tdiv t199 16384)), .int .i64 t182, .int .u8 t190, .int .u16 (IntKind.u16.wrap (wrap64 ((wrap64 (256 * (wrap64 (rd l0 334)))) + (wrap64 (rd l0 335)))))] (0, 0) _ rfl (by (with_reducible repeat (first | refine blk_drewN ?_ _ | refine blk_drew ?_ | refine blk_alloc ?_ _)); refine blk_put (cs := #[.string x187000_2, .int .u8 t176, .int .i64 t177, .bool false, .bool t179, .bool t180, .int .i64 (wrap64 (Int.tdiv t199 16384)), .int .i64 t182, .int .u8 t190, .int .u16 0]) ?_ 9 _ rfl; (with_reducible repeat (first | refine blk_drewN ?_ _ | refine blk_drew ?_ | refine blk_alloc ?_ _)); refine blk_put (cs := #[.string x187000_2, .int .u8 t176, .int .i64 t177, .bool false, .bool t179, .bool t180, .int .i64 (wrap64 (Int.tdiv t199 16384)), .int .i64 t182, .int .u8 0, .int .u16 0]) ?_ 8 _ rfl; (with_reducible repeat (first | refine blk_drewN ?_ _ | refine blk_drew ?_ | refine blk_alloc ?_ _)); refine blk_put (cs := #[.string x187000_2, .int .u8 t176, .int .i64 t177, .bool false, .bool t179, .bool t180, .int .i64 (wrap64 (Int.tdiv t199 16384)), .int .i64 0, .int .u8 0, .int .u16 0]) ?_ 7 _ rfl; (with_reducible repeat (first | refine blk_drewN ?_ _ | refine blk_drew ?_ | refine blk_alloc ?_ _)); refine blk_put (cs := #[.string x187000_2, .int .u8 t176, .int .i64 t177, .bool false, .bool t179, .bool t180, .int .i64 0, .int .i64 0, .int .u8 0, .int .u16 0]) ?_ 6 _ rfl; (with_reducible repeat (first | refine blk_drewN ?_ _ | refine blk_drew ?_ | refine blk_alloc ?_ _)); refine blk_put (cs := #[.string x187000_2, .int .u8 t176, .int .i64 t177, .bool false, .bool t179, .bool false, .int .i64 0, .int .i64 0, .int .u8 0, .int .u16 0]) ?_ 5 _ rfl; (with_reducible repeat (first | refine blk_drewN ?_ _ | refine blk_drew ?_ | refine blk_alloc ?_ _)); refine blk_put (cs := #[.string x187000_2, .int .u8 t176, .int .i64 t177, .bool false, .bool false, .bool false, .int .i64 0, .int .i64 0, .int .u8 0, .int .u16 0]) ?_ 4 _ rfl; (with_reducible repeat (first | refine blk_drewN ?_ _ | refine blk_drew ?_ | refine blk_alloc ?_ _)); refine blk_put (cs := #[.string x187000_2, .int .u8 t176, .int .i64 t177, .bool false, .bool false, .bool false, .int .i64 0, .int .i64 0, .int .u8 0, .int .u16 0]) ?_ 3 _ rfl; (with_reducible repeat (first | refine blk_drewN ?_ _ | refine blk_drew ?_ | refine blk_alloc ?_ _)); refine blk_put (cs := #[.string x187000_2, .int .u8 t176, .int .i64 0, .bool false, .bool false, .bool false, .int .i64 0, .int .i64 0, .int .u8 0, .int .u16 0]) ?_ 2 _ rfl; (with_reducible repeat (first | refine blk_drewN ?_ _ | refine blk_drew ?_ | refine blk_alloc ?_ _)); refine blk_put (cs := #[.string x187000_2, .int .u8 0, .int .i64 0, .bool false, .bool false, .bool false, .int .i64 0, .int .i64 0, .int .u8 0, .int .u16 0]) ?_ 1 _ rfl; (with_reducible repeat (first | refine blk_drewN ?_ _ | refine blk_drew ?_ | refine blk_alloc ?_ _)); refine blk_put (cs := #[.string (⟨#[]⟩ : ByteArray), .int .u8 0, .int .i64 0, .bool false, .bool false, .bool false, .int .i64 0, .int .i64 0, .int .u8 0, .int .u16 0]) ?_ 0 _ rfl; (with_reducible repeat (first | refine blk_drewN ?_ _ | refine blk_drew ?_ | refine blk_alloc ?_ _)); refine blk_far ?_ NB173_186.out _; (with_reducible repeat (first | refine blk_drewN ?_ _ | refine blk_drew ?_ | refine blk_alloc ?_ _)); exact BK173.out) Try.underlying26 rfl (by kernel_rfl)) rfl ?_
                                        exact ⟨by first | rfl | (simp [errW_none, errW_some] <;> rfl) | (simp [*, errW_none, errW_some] <;> rfl), by repeat (first | (with_reducible first | exact HB.out | apply below_alloc | apply pw_below_drewN | apply below_drew1 | refine below_set ?_ GE173.out | refine below_set ?_ GE186.out) | exact HB.out)⟩
                                      · rw [if_neg c54] at H
                                        exact absurd H (by simp)
                                    · rw [if_neg c53] at H
                                      exact absurd H (by simp)
                              · rw [if_neg c27] at H
                                exact absurd H (by simp)
                            · rw [if_neg c26] at H
                              exact absurd H (by simp)
                          · rw [if_neg c25] at H
                            have c25b0 : decide (x10_2 < 324) = false := decide_eq_false c25
                            clear c25
                            replace H := Option.bind_eq_some_iff.mp H
                            obtain ⟨t208, A620, H⟩ := H
                            replace H : (if t178 = true then ((some (([0, 2048, 8192, 32768, 131072, 65536] : List Int) : List Int)).bind fun y209 => (if 0 ≤ (rd l0 329) then (if (rd l0 329) < (y209.length : Int) then (if 334 < (l0.length : Int) then (if 335 < (l0.length : Int) then (some (x187000_2, t176, t177, t178, t179, t180, wrap64 (Int.tdiv t208 16384), rd y209 (rd l0 329), t190, IntKind.u16.wrap (wrap64 ((wrap64 (256 * (wrap64 (rd l0 334)))) + (wrap64 (rd l0 335)))), 0)) else (none)) else (none)) else (none)) else (none))) else (if 334 < (l0.length : Int) then (if 335 < (l0.length : Int) then (some (x187000_2, t176, t177, t178, t179, t180, wrap64 (Int.tdiv t208 16384), t182, t190, IntKind.u16.wrap (wrap64 ((wrap64 (256 * (wrap64 (rd l0 334)))) + (wrap64 (rd l0 335)))), 0)) else (none)) else (none))) = some (r1, r2, r3, r4, r5, r6, r7, r8, r9, r10, r11) := H
                            have A62 := Aside0.mk A620
                            clear A620
                            by_cases c63 : t178 = true
                            · subst c63
                              have H1 : ((some (([0, 2048, 8192, 32768, 131072, 65536] : List Int) : List Int)).bind fun y209 => (if 0 ≤ (rd l0 329) then (if (rd l0 329) < (y209.length : Int) then (if 334 < (l0.length : Int) then (if 335 < (l0.length : Int) then (some (x187000_2, t176, t177, true, t179, t180, wrap64 (Int.tdiv t208 16384), rd y209 (rd l0 329), t190, IntKind.u16.wrap (wrap64 ((wrap64 (256 * (wrap64 (rd l0 334)))) + (wrap64 (rd l0 335)))), 0)) else (none)) else (none)) else (none)) else (none))) = some (r1, r2, r3, r4, r5, r6, r7, r8, r9, r10, r11) := by rw [if_pos rfl] at H; exact H
                              clear H
                              have H := H1
                              clear H1
                              obtain ⟨y209, hy209⟩ : ∃ y_ : List Int, y_ = (([0, 2048, 8192, 32768, 131072, 65536] : List Int)) := ⟨_, rfl⟩
                              replace H : (if 0 ≤ (rd l0 329) then (if (rd l0 329) < (y209.length : Int) then (if 334 < (l0.length : Int) then (if 335 < (l0.length : Int) then (some (x187000_2, t176, t177, true, t179, t180, wrap64 (Int.tdiv t208 16384), rd y209 (rd l0 329), t190, IntKind.u16.wrap (wrap64 ((wrap64 (256 * (wrap64 (rd l0 334)))) + (wrap64 (rd l0 335)))), 0)) else (none)) else (none)) else (none)) else (none)) = some (r1, r2, r3, r4, r5, r6, r7, r8, r9, r10, r11) := by first | (rw [hy209]; with_reducible exact H) | (have H2_ := (Option.bind_some _ _).symm.trans H; rw [hy209]; with_reducible exact H2_) | (have H2_ := (Option.bind_some _ _).symm.trans H; with_reducible exact H2_) | with_reducible exact H | (rw [hy209]; exact H) | exact H
                              have Ny209 := Aside0.mk hy209
                              clear hy209
                              by_cases c64 : 0 ≤ (rd l0 329)
                              · rw [if_pos c64] at H
                                have c64b0 : decide (0 ≤ (rd l0 329)) = true := decide_eq_true c64
                                clear c64
                                by_cases c65 : (rd l0 329) < (y209.length : Int)
                                · rw [if_pos c65] at H
                                  have c65b0 : decide ((rd l0 329) < (y209.length : Int)) = true := decide_eq_true c65
                                  clear c65
                                  by_cases c66 : 334 < (l0.length : Int)
                                  · rw [if_pos c66] at H
                                    have c66b0 : decide (334 < (l0.length : Int)) = true := decide_eq_true c66
                                    have c66b1 : decide (334 < l0.length) = true := decide_eq_true (by omega)
                                    clear c66
                                    by_cases c67 : 335 < (l0.length : Int)
                                    · rw [if_pos c67] at H
                                      have c67b0 : decide (335 < (l0.length : Int)) = true := decide_eq_true c67
                                      have c67b1 : decide (335 < l0.length) = true := decide_eq_true (by omega)
                                      clear c67
                                      simp only [Option.some.injEq, Prod.mk.injEq] at H
                                      obtain ⟨rfl, rfl, rfl, rfl, rfl, rfl, rfl, rfl, rfl, rfl, rfl⟩ := H
                                      try go_wp2_with (first | ((with_reducible refine gate_callee (f := 26) rfl ?_); refine goesL_ (some 79) rfl rfl Try.func26 (by kernel_rfl) rfl #[.int .u8 (rd l0 328)] rfl (by (try simp only [List.map_toArray, List.map_cons, List.map_nil]); first | done | rfl | (simp only [List.length_drop, List.length_take]; rfl)) ?_; (with_reducible refine (whirligigref07_Most.calls k2 (rd l0 328) t208 _ A62.out).mono ?_); rintro e w' ⟨rfl, ⟨nd, rfl⟩⟩; refine ⟨_, rfl, ?_⟩; (try (rw [drewN_self wr]; generalize hq_ : World.drewN wr _ = wr; have n0_ : Aside0 (wr.heap[gb173]? = some (.cells #[.string (⟨#[]⟩ : ByteArray), .int .u8 0, .int .i64 0, .bool false, .bool false, .bool false, .int .i64 0, .int .i64 0, .int .u8 0, .int .u16 0] 26 (0, 0))) := ⟨by rw [← hq_]; exact (by (with_reducible repeat (first | refine blk_drewN ?_ _ | refine blk_drew ?_ | refine blk_alloc ?_ _)); exact BK173.out)⟩; have n1_ : Aside0 (wr.heap[gb186]? = some (.cells #[.string x187000_2, .int .u8 t176, .int .i64 t177, .bool true, .bool t179, .bool t180, .int .i64 t181, .int .i64 t182, .int .u8 t183, .int .u16 t184] 26 (0, 0))) := ⟨by rw [← hq_]; exact (by (with_reducible repeat (first | refine blk_drewN ?_ _ | refine blk_drew ?_ | refine blk_alloc ?_ _)); exact BK186.out)⟩; have n2_ : Aside0 (Below w.heap.size w wr) := ⟨by rw [← hq_]; exact (by repeat (first | (with_reducible first | exact HB.out | apply below_alloc | apply pw_below_drewN | apply below_drew1 | refine below_set ?_ GE173.out | refine below_set ?_ GE186.out) | exact HB.out))⟩; clear BK173 BK186 HB hq_; have BK173 := n0_; have BK186 := n1_; have HB := n2_; clear n0_ n1_ n2_)); have hnb68 := NB186_173.out; have hnc68 := NB173_186.out; have hcz69_0 : wr.cell? ⟨gb186, 0, none⟩ = some (.string x187000_2) := (blk_cell BK186.out 0).trans rfl; have hcz69_1 : wr.cell? ⟨gb186, 1, none⟩ = some (.int .u8 t176) := (blk_cell BK186.out 1).trans rfl; have hcz69_2 : wr.cell? ⟨gb186, 2, none⟩ = some (.int .i64 t177) := (blk_cell BK186.out 2).trans rfl; have hcz69_3 : wr.cell? ⟨gb186, 3, none⟩ = some (.bool true) := (blk_cell BK186.out 3).trans rfl; have hcz69_4 : wr.cell? ⟨gb186, 4, none⟩ = some (.bool t179) := (blk_cell BK186.out 4).trans rfl; have hcz69_5 : wr.cell? ⟨gb186, 5, none⟩ = some (.bool t180) := (blk_cell BK186.out 5).trans rfl; have hcz69_6 : wr.cell? ⟨gb186, 6, none⟩ = some (.int .i64 t181) := (blk_cell BK186.out 6).trans rfl; have hcz69_7 : wr.cell? ⟨gb186, 7, none⟩ = some (.int .i64 t182) := (blk_cell BK186.out 7).trans rfl; have hcz69_8 : wr.cell? ⟨gb186, 8, none⟩ = some (.int .u8 t183) := (blk_cell BK186.out 8).trans rfl; have hcz69_9 : wr.cell? ⟨gb186, 9, none⟩ = some (.int .u16 t184) := (blk_cell BK186.out 9).trans rfl; have hfz69_0 := blk_frozen BK186.out 0; have hfz69_1 := blk_frozen BK186.out 1; have hfz69_2 := blk_frozen BK186.out 2; have hfz69_3 := blk_frozen BK186.out 3; have hfz69_4 := blk_frozen BK186.out 4; have hfz69_5 := blk_frozen BK186.out 5; have hfz69_6 := blk_frozen BK186.out 6; have hfz69_7 := blk_frozen BK186.out 7; have hfz69_8 := blk_frozen BK186.out 8; have hfz69_9 := blk_frozen BK186.out 9) | ((with_reducible refine gate_dst (N := 84) rfl ?_); (try (refine gate_guard (by rfl) ?_; dsimp only)); refine Kd.R_lit (Kd.int .i64) _ 3 ?hg (N := 84) ?hd (xs := ([0, 2048, 8192, 32768, 131072, 65536] : List Int)) (inner := [.int .i64 0, .int .i64 2048, .int .i64 8192, .int .i64 32768, .int .i64 131072, .int .i64 65536]) (ok := fun _ => True) (okp := fun _ => True) ?hr ?hp (fun _ hk => hk) trivial (Below.refl _ _) (Nat.le_refl _) (by simp) ?_; (case hd => rfl); (case hg => rfl); (case hr => first | (go_simp; done) | (go_simp; rfl)); (case hp => exact (Reps.one (show Kd.M (Kd.int .i64) _ _ _ 0 [.int .i64 0] from rfl) (Reps.one (show Kd.M (Kd.int .i64) _ _ _ 2048 [.int .i64 2048] from rfl) (Reps.one (show Kd.M (Kd.int .i64) _ _ _ 8192 [.int .i64 8192] from rfl) (Reps.one (show Kd.M (Kd.int .i64) _ _ _ 32768 [.int .i64 32768] from rfl) (Reps.one (show Kd.M (Kd.int .i64) _ _ _ 131072 [.int .i64 131072] from rfl) (Reps.one (show Kd.M (Kd.int .i64) _ _ _ 65536 [.int .i64 65536] from rfl) (Reps.none _ _)))))))); intro v210 w70 ho71 hb hg_ hnew_; clear hg_ hnew_; (first | rw [← Ny209.out] at ho71 | (simp only [Int.reduceToNat] at ho71; rw [← Ny209.out] at ho71)); have n0_ := Aside0.mk (Kd.R_lower ho71 (below_size (by repeat (first | (with_reducible first | exact HB.out | apply below_alloc | apply pw_below_drewN | apply below_drew1 | refine below_set ?_ GE173.out | refine below_set ?_ GE186.out) | exact HB.out)))); have n1_ := Aside0.mk (blk_below (g := gb173) (o := .cells #[.string (⟨#[]⟩ : ByteArray), .int .u8 0, .int .i64 0, .bool false, .bool false, .bool false, .int .i64 0, .int .i64 0, .int .u8 0, .int .u16 0] 26 (0, 0)) (by (with_reducible repeat (first | refine blk_drewN ?_ _ | refine blk_drew ?_ | refine blk_alloc ?_ _)); refine blk_far ?_ NB173_186.out _; (with_reducible repeat (first | refine blk_drewN ?_ _ | refine blk_drew ?_ | refine blk_alloc ?_ _)); exact BK173.out) hb); have n2_ := Aside0.mk (blk_below (g := gb186) (o := .cells #[.string x187000_2, .int .u8 t176, .int .i64 t177, .bool true, .bool t179, .bool t180, .int .i64 (wrap64 (Int.tdiv t208 16384)), .int .i64 t182, .int .u8 t183, .int .u16 t184] 26 (0, 0)) (by (with_reducible repeat (first | refine blk_drewN ?_ _ | refine blk_drew ?_ | refine blk_alloc ?_ _)); refine blk_put (cs := #[.string x187000_2, .int .u8 t176, .int .i64 t177, .bool true, .bool t179, .bool t180, .int .i64 t181, .int .i64 t182, .int .u8 t183, .int .u16 t184]) ?_ 6 _ rfl; (with_reducible repeat (first | refine blk_drewN ?_ _ | refine blk_drew ?_ | refine blk_alloc ?_ _)); exact BK186.out) hb); have n3_ := Aside0.mk (below_step (by repeat (first | (with_reducible first | exact HB.out | apply below_alloc | apply pw_below_drewN | apply below_drew1 | refine below_set ?_ GE173.out | refine below_set ?_ GE186.out) | exact HB.out)) hb); clear BK173; clear BK186; clear HB; have HO211 := n0_; have BK173 := n1_; have BK186 := n2_; have HB := n3_; clear n0_ n1_ n2_ n3_; clear hb ho71; obtain ⟨Ao72, co72, eo72⟩ := Kd.R_slice HO211.out; subst eo72; have p212 : 0 ≤ ((rd l0 329) : Int) := of_decide_eq_true (by first | (with_reducible assumption) | assumption); have q212 : (rd l0 329) < (y209.length : Int) := of_decide_eq_true (by first | (with_reducible assumption) | assumption); obtain ⟨ad212, e212, hx212_0⟩ := Kd.at_int (Kd.R_reads' HO211.out).2.2 (rd l0 329) p212 q212; cases e212; replace p212 := eq_true p212; replace q212 := eq_true q212; have hcz73_0 : w70.cell? ⟨gb186, 0, none⟩ = some (.string x187000_2) := (blk_cell BK186.out 0).trans rfl; have hcz73_1 : w70.cell? ⟨gb186, 1, none⟩ = some (.int .u8 t176) := (blk_cell BK186.out 1).trans rfl; have hcz73_2 : w70.cell? ⟨gb186, 2, none⟩ = some (.int .i64 t177) := (blk_cell BK186.out 2).trans rfl; have hcz73_3 : w70.cell? ⟨gb186, 3, none⟩ = some (.bool true) := (blk_cell BK186.out 3).trans rfl; have hcz73_4 : w70.cell? ⟨gb186, 4, none⟩ = some (.bool t179) := (blk_cell BK186.out 4).trans rfl; have hcz73_5 : w70.cell? ⟨gb186, 5, none⟩ = some (.bool t180) := (blk_cell BK186.out 5).trans rfl; have hcz73_6 : w70.cell? ⟨gb186, 6, none⟩ = some (.int .i64 (wrap64 (Int.tdiv t208 16384))) := (blk_cell BK186.out 6).trans rfl; have hcz73_7 : w70.cell? ⟨gb186, 7, none⟩ = some (.int .i64 t182) := (blk_cell BK186.out 7).trans rfl; have hcz73_8 : w70.cell? ⟨gb186, 8, none⟩ = some (.int .u8 t183) := (blk_cell BK186.out 8).trans rfl; have hcz73_9 : w70.cell? ⟨gb186, 9, none⟩ = some (.int .u16 t184) := (blk_cell BK186.out 9).trans rfl; have hfz73_0 := blk_frozen BK186.out 0; have hfz73_1 := blk_frozen BK186.out 1; have hfz73_2 := blk_frozen BK186.out 2; have hfz73_3 := blk_frozen BK186.out 3; have hfz73_4 := blk_frozen BK186.out 4; have hfz73_5 := blk_frozen BK186.out 5; have hfz73_6 := blk_frozen BK186.out 6; have hfz73_7 := blk_frozen BK186.out 7; have hfz73_8 := blk_frozen BK186.out 8; have hfz73_9 := blk_frozen BK186.out 9))
                                      have n0_ : Aside0 (Kd.R (Kd.int .i64) 3 ((w70.setCell ⟨gb186, 7, none⟩ (.int .i64 (rd y209 (rd l0 329)))).setCell ⟨gb186, 8, none⟩ (.int .u8 t190)) w.heap.size (fun _ => True) (.slice (some ad212) y209.length co72) y209) := ⟨by (with_reducible repeat (first | apply Kd.R_alloc | apply Kd.R_drewN | apply Kd.R_drew)); exact Kd.R_mono (Kd.R_far (p := ⟨gb186, 8, none⟩) (Kd.R_far (p := ⟨gb186, 7, none⟩) (Kd.R_types HO211.out BK186.out (by decide)) (fun _ hk => hk.2) (.int .i64 (rd y209 (rd l0 329)))) (fun _ hk => hk.2) (.int .u8 t190)) (fun _ hk => trivial)⟩
                                      have n1_ : Aside0 (((w70.setCell ⟨gb186, 7, none⟩ (.int .i64 (rd y209 (rd l0 329)))).setCell ⟨gb186, 8, none⟩ (.int .u8 t190)).heap[gb173]? = some (.cells #[.string (⟨#[]⟩ : ByteArray), .int .u8 0, .int .i64 0, .bool false, .bool false, .bool false, .int .i64 0, .int .i64 0, .int .u8 0, .int .u16 0] 26 (0, 0))) := ⟨by (with_reducible repeat (first | refine blk_drewN ?_ _ | refine blk_drew ?_ | refine blk_alloc ?_ _)); refine blk_far ?_ NB173_186.out _; (with_reducible repeat (first | refine blk_drewN ?_ _ | refine blk_drew ?_ | refine blk_alloc ?_ _)); refine blk_far ?_ NB173_186.out _; (with_reducible repeat (first | refine blk_drewN ?_ _ | refine blk_drew ?_ | refine blk_alloc ?_ _)); exact BK173.out⟩
                                      have n2_ : Aside0 (((w70.setCell ⟨gb186, 7, none⟩ (.int .i64 (rd y209 (rd l0 329)))).setCell ⟨gb186, 8, none⟩ (.int .u8 t190)).heap[gb186]? = some (.cells #[.string x187000_2, .int .u8 t176, .int .i64 t177, .bool true, .bool t179, .bool t180, .int .i64 (wrap64 (Int.tdiv t208 16384)), .int .i64 (rd y209 (rd l0 329)), .int .u8 t190, .int .u16 t184] 26 (0, 0))) := ⟨by (with_reducible repeat (first | refine blk_drewN ?_ _ | refine blk_drew ?_ | refine blk_alloc ?_ _)); refine blk_put (cs := #[.string x187000_2, .int .u8 t176, .int .i64 t177, .bool true, .bool t179, .bool t180, .int .i64 (wrap64 (Int.tdiv t208 16384)), .int .i64 (rd y209 (rd l0 329)), .int .u8 t183, .int .u16 t184]) ?_ 8 _ rfl; (with_reducible repeat (first | refine blk_drewN ?_ _ | refine blk_drew ?_ | refine blk_alloc ?_ _)); refine blk_put (cs := #[.string x187000_2, .int .u8 t176, .int .i64 t177, .bool true, .bool t179, .bool t180, .int .i64 (wrap64 (Int.tdiv t208 16384)), .int .i64 t182, .int .u8 t183, .int .u16 t184]) ?_ 7 _ rfl; (with_reducible repeat (first | refine blk_drewN ?_ _ | refine blk_drew ?_ | refine blk_alloc ?_ _)); exact BK186.out⟩
                                      have n3_ : Aside0 (Below w.heap.size w ((w70.setCell ⟨gb186, 7, none⟩ (.int .i64 (rd y209 (rd l0 329)))).setCell ⟨gb186, 8, none⟩ (.int .u8 t190))) := ⟨by repeat (first | (with_reducible first | exact HB.out | apply below_alloc | apply pw_below_drewN | apply below_drew1 | refine below_set ?_ GE173.out | refine below_set ?_ GE186.out) | exact HB.out)⟩
                                      (try clear HO211)
                                      (try clear BK173)
                                      (try clear BK186)
                                      (try clear HB)
                                      generalize ((w70.setCell ⟨gb186, 7, none⟩ (.int .i64 (rd y209 (rd l0 329)))).setCell ⟨gb186, 8, none⟩ (.int .u8 t190)) = w74 at n0_ n1_ n2_ n3_ ⊢
                                      have HO211 := n0_
                                      have BK173 := n1_
                                      have BK186 := n2_
                                      have HB := n3_
                                      clear n0_ n1_ n2_ n3_
                                      have n0_ := Aside0.mk (Kd.R_drew HO211.out)
                                      have n1_ := Aside0.mk (blk_drew BK173.out)
                                      have n2_ := Aside0.mk (blk_drew BK186.out)
                                      have n3_ := Aside0.mk (below_drew1 HB.out)
                                      clear HO211
                                      clear BK173
                                      clear BK186
                                      clear HB
                                      have HO211 := n0_
                                      have BK173 := n1_
                                      have BK186 := n2_
                                      have HB := n3_
                                      clear n0_ n1_ n2_ n3_
                                      have p213 : 0 ≤ (334 : Int) := (by omega)
                                      have q213 : 334 < (l0.length : Int) := of_decide_eq_true (by first | (with_reducible assumption) | assumption)
                                      obtain ⟨ad213, e213, hx213_0⟩ := Kd.at_int HR0.out 334 p213 q213
                                      have hw213_0 := hx213_0
                                      (try rw [show ((334 : Int)).toNat = 334 from rfl] at hw213_0)
                                      (try rw [show 334 * 1 = 334 from rfl] at hw213_0)
                                      (try simp only [Nat.reduceMul, Nat.reduceEqDiff, Go.Addr.add, ↓reduceIte] at hw213_0)
                                      obtain rfl : ad174 = ad213 := (by injection e213)
                                      (try simp only [show (334 : Int).toNat = 334 from rfl, Nat.reduceMul, Nat.reduceEqDiff, Go.Addr.add, ↓reduceIte] at hx213_0)
                                      have qi213 : (334 < l0.length) = True := eq_true (by omega)
                                      (try rw [show ((334 : Int)).toNat = 334 from rfl] at hx213_0)
                                      replace hx213_0 := (HB.out.cell (World.block_lt_of_cell? w _ hx213_0)).trans hx213_0
                                      replace p213 := eq_true p213
                                      replace q213 := eq_true q213
                                      have p214 : 0 ≤ (335 : Int) := (by omega)
                                      have q214 : 335 < (l0.length : Int) := of_decide_eq_true (by first | (with_reducible assumption) | assumption)
                                      obtain ⟨ad214, e214, hx214_0⟩ := Kd.at_int HR0.out 335 p214 q214
                                      have hw214_0 := hx214_0
                                      (try rw [show ((335 : Int)).toNat = 335 from rfl] at hw214_0)
                                      (try rw [show 335 * 1 = 335 from rfl] at hw214_0)
                                      (try simp only [Nat.reduceMul, Nat.reduceEqDiff, Go.Addr.add, ↓reduceIte] at hw214_0)
                                      obtain rfl : ad174 = ad214 := (by injection e214)
                                      (try simp only [show (335 : Int).toNat = 335 from rfl, Nat.reduceMul, Nat.reduceEqDiff, Go.Addr.add, ↓reduceIte] at hx214_0)
                                      have qi214 : (335 < l0.length) = True := eq_true (by omega)
                                      (try rw [show ((335 : Int)).toNat = 335 from rfl] at hx214_0)
                                      replace hx214_0 := (HB.out.cell (World.block_lt_of_cell? w _ hx214_0)).trans hx214_0
                                      replace p214 := eq_true p214
                                      replace q214 := eq_true q214
                                      refine start_ (n := 13) (S := fun w' => w'.cell? ⟨ad174.block, ad174.off + 334, none⟩ = some (.int .u8 (rd l0 334)) ∧ w'.cell? ⟨ad174.block, ad174.off + 335, none⟩ = some (.int .u8 (rd l0 335))) (ds := []) #[false, false, false, false, false, false, false, false, false, false, false, false, false] (by kernel_rfl) rfl rfl ⟨((HB.out.cell (World.block_lt_of_cell? w _ hw213_0)).trans hw213_0), ((HB.out.cell (World.block_lt_of_cell? w _ hw214_0)).trans hw214_0)⟩ (fun hHeld => ?_); refine with_tabW whirligigref07_Parse.tab22 whirligigref07_Parse.bits22 (fun HT_ HW_ => ?_)
                                      generalize w74.drew = w75 at HO211 BK173 BK186 HB hx213_0 hx214_0 hHeld ⊢
                                      refine pure_ (i := 0) (N := some 92) (v := ?_) (a' := ?_) #[true, false, false, false, false, false, false, false, false, false, false, false, false] rfl rfl (any_of HT_.out (by kernel_rfl)) (fun _ _ _ h => h) (Or.inl ⟨by rfl, ?_⟩) ?_ ?_
                                      rotate_left
                                      · intro w'
                                        go_simp
                                        with_reducible rfl
                                      rotate_left
                                      · simp only [Act.put, List.setIfInBounds_toArray, List.set_cons_zero, List.set_cons_succ, i64_w, i32_w]
                                        rfl
                                      refine pure_ (i := 1) (N := some 93) (v := ?_) (a' := ?_) #[true, true, false, false, false, false, false, false, false, false, false, false, false] rfl rfl (any_of HT_.out (by kernel_rfl)) (fun _ _ _ h => h) (Or.inl ⟨by rfl, ?_⟩) ?_ ?_
                                      rotate_left
                                      · intro w'
                                        go_simp
                                        with_reducible rfl
                                      rotate_left
                                      · simp only [Act.put, List.setIfInBounds_toArray, List.set_cons_zero, List.set_cons_succ, i64_w, i32_w]
                                        rfl
                                      refine pure_ (i := 5) (N := some 97) (v := ?_) (a' := ?_) #[true, true, false, false, false, true, false, false, false, false, false, false, false] rfl rfl (any_of HT_.out (by kernel_rfl)) (fun _ _ _ h => h) (Or.inl ⟨by rfl, ?_⟩) ?_ ?_
                                      rotate_left
                                      · intro w'
                                        go_simp
                                        with_reducible rfl
                                      rotate_left
                                      · simp only [Act.put, List.setIfInBounds_toArray, List.set_cons_zero, List.set_cons_succ, i64_w, i32_w]
                                        rfl
                                      refine pure_ (i := 6) (N := some 98) (v := ?_) (a' := ?_) #[true, true, false, false, false, true, true, false, false, false, false, false, false] rfl rfl (any_of HT_.out (by kernel_rfl)) (fun _ _ _ h => h) (Or.inl ⟨by rfl, ?_⟩) ?_ ?_
                                      rotate_left
                                      · intro w'
                                        go_simp
                                        with_reducible rfl
                                      rotate_left
                                      · simp only [Act.put, List.setIfInBounds_toArray, List.set_cons_zero, List.set_cons_succ, i64_w, i32_w]
                                        rfl
                                      refine take_ (i := 2) (N := some 94) (v := ?_) (a' := ?_) #[true, true, true, false, false, true, true, false, false, false, false, false, false] rfl rfl (take_ofW HT_.out HW_.out (by kernel_rfl)) (fun _ _ _ h => h) (Or.inl ⟨by rfl, ?_⟩) hHeld ?_ ?_
                                      rotate_left
                                      · rintro w' ⟨s0, s1⟩
                                        go_simp
                                        with_reducible rfl
                                      rotate_left
                                      · simp only [Act.put, List.setIfInBounds_toArray, List.set_cons_zero, List.set_cons_succ, i64_w, i32_w]
                                        rfl
                                      refine pure_ (i := 3) (N := some 95) (v := ?_) (a' := ?_) #[true, true, true, true, false, true, true, false, false, false, false, false, false] rfl rfl (any_of HT_.out (by kernel_rfl)) (fun _ _ _ h => h) (Or.inl ⟨by rfl, ?_⟩) ?_ ?_
                                      rotate_left
                                      · intro w'
                                        go_simp
                                        with_reducible rfl
                                      rotate_left
                                      · simp only [Act.put, List.setIfInBounds_toArray, List.set_cons_zero, List.set_cons_succ, i64_w, i32_w]
                                        rfl
                                      refine pure_ (i := 4) (N := some 96) (v := ?_) (a' := ?_) #[true, true, true, true, true, true, true, false, false, false, false, false, false] rfl rfl (any_of HT_.out (by kernel_rfl)) (fun _ _ _ h => h) (Or.inl ⟨by rfl, ?_⟩) ?_ ?_
                                      rotate_left
                                      · intro w'
                                        go_simp
                                        with_reducible rfl
                                      rotate_left
                                      · simp only [Act.put, List.setIfInBounds_toArray, List.set_cons_zero, List.set_cons_succ, i64_w, i32_w]
                                        rfl
                                      refine take_ (i := 7) (N := some 99) (v := ?_) (a' := ?_) #[true, true, true, true, true, true, true, true, false, false, false, false, false] rfl rfl (take_ofW HT_.out HW_.out (by kernel_rfl)) (fun _ _ _ h => h) (Or.inl ⟨by rfl, ?_⟩) hHeld ?_ ?_
                                      rotate_left
                                      · rintro w' ⟨s0, s1⟩
                                        go_simp
                                        with_reducible rfl
                                      rotate_left
                                      · simp only [Act.put, List.setIfInBounds_toArray, List.set_cons_zero, List.set_cons_succ, i64_w, i32_w]
                                        rfl
                                      refine pure_ (i := 8) (N := some 100) (v := ?_) (a' := ?_) #[true, true, true, true, true, true, true, true, true, false, false, false, false] rfl rfl (any_of HT_.out (by kernel_rfl)) (fun _ _ _ h => h) (Or.inl ⟨by rfl, ?_⟩) ?_ ?_
                                      rotate_left
                                      · intro w'
                                        go_simp
                                        with_reducible rfl
                                      rotate_left
                                      · simp only [Act.put, List.setIfInBounds_toArray, List.set_cons_zero, List.set_cons_succ, i64_w, i32_w]
                                        rfl
                                      refine pure_ (i := 9) (N := some 101) (v := ?_) (a' := ?_) #[true, true, true, true, true, true, true, true, true, true, false, false, false] rfl rfl (any_of HT_.out (by kernel_rfl)) (fun _ _ _ h => h) (Or.inl ⟨by rfl, ?_⟩) ?_ ?_
                                      rotate_left
                                      · intro w'
                                        go_simp
                                        with_reducible rfl
                                      rotate_left
                                      · simp only [Act.put, List.setIfInBounds_toArray, List.set_cons_zero, List.set_cons_succ, i64_w, i32_w]
                                        rfl
                                      refine pure_ (i := 10) (N := some 102) (v := ?_) (a' := ?_) #[true, true, true, true, true, true, true, true, true, true, true, false, false] rfl rfl (any_of HT_.out (by kernel_rfl)) (fun _ _ _ h => h) (Or.inl ⟨by rfl, ?_⟩) ?_ ?_
                                      rotate_left
                                      · intro w'
                                        go_simp
                                        with_reducible rfl
                                      rotate_left
                                      · simp only [Act.put, List.setIfInBounds_toArray, List.set_cons_zero, List.set_cons_succ, i64_w, i32_w]
                                        rfl
                                      refine pure_ (i := 11) (N := some 103) (v := ?_) (a' := ?_) #[true, true, true, true, true, true, true, true, true, true, true, true, false] rfl rfl (any_of HT_.out (by kernel_rfl)) (fun _ _ _ h => h) (Or.inl ⟨by rfl, ?_⟩) ?_ ?_
                                      rotate_left
                                      · intro w'
                                        go_simp
                                        with_reducible rfl
                                      rotate_left
                                      · simp only [Act.put, List.setIfInBounds_toArray, List.set_cons_zero, List.set_cons_succ, i64_w, i32_w]
                                        rfl
                                      refine one_ (i := 12) (N := none) #[true, true, true, true, true, true, true, true, true, true, true, true, true] rfl rfl (one_of HT_.out (by kernel_rfl)) (by decide) (fun K hK => ?_)
                                      have hs76 : w75.cell? ⟨gb186, 9, none⟩ = some (.int .u16 t184) := (blk_cell BK186.out 9).trans rfl
                                      have hfs76 := blk_frozen BK186.out 9
                                      have hns76_0 := NB173_186.out
                                      have hms76_0 := NB186_173.out
                                      refine skip_ (w1 := ?_) (by rfl) rfl ?_ ?_
                                      rotate_left
                                      · go_simp
                                        rfl
                                      refine hK.out _ _ ⟨((cell_far (p := ⟨gb186, _, none⟩) (by first | exact Nat.ne_of_lt (Nat.lt_of_lt_of_le (by have := World.block_lt_of_cell? _ _ hw213_0; first | rwa [add_block] at this | exact this) GW186.out) | (rw [add_block]; exact Nat.ne_of_lt (Nat.lt_of_lt_of_le (by have := World.block_lt_of_cell? _ _ hw213_0; first | rwa [add_block] at this | exact this) GW186.out)) | (show (Addr.add _ _).block ≠ _; rw [add_block]; exact Nat.ne_of_lt (Nat.lt_of_lt_of_le (by have := World.block_lt_of_cell? _ _ hw213_0; first | rwa [add_block] at this | exact this) GW186.out)) | (dsimp only; exact Nat.ne_of_lt (Nat.lt_of_lt_of_le (by have := World.block_lt_of_cell? _ _ hw213_0; first | rwa [add_block] at this | exact this) GW186.out))) _).trans (hHeld.1)), ((cell_far (p := ⟨gb186, _, none⟩) (by first | exact Nat.ne_of_lt (Nat.lt_of_lt_of_le (by have := World.block_lt_of_cell? _ _ hw214_0; first | rwa [add_block] at this | exact this) GW186.out) | (rw [add_block]; exact Nat.ne_of_lt (Nat.lt_of_lt_of_le (by have := World.block_lt_of_cell? _ _ hw214_0; first | rwa [add_block] at this | exact this) GW186.out)) | (show (Addr.add _ _).block ≠ _; rw [add_block]; exact Nat.ne_of_lt (Nat.lt_of_lt_of_le (by have := World.block_lt_of_cell? _ _ hw214_0; first | rwa [add_block] at this | exact this) GW186.out)) | (dsimp only; exact Nat.ne_of_lt (Nat.lt_of_lt_of_le (by have := World.block_lt_of_cell? _ _ hw214_0; first | rwa [add_block] at this | exact this) GW186.out))) _).trans (hHeld.2))⟩ (fun hHeld => ?_)
                                      clear hK K
                                      refine done_ (done_of HT_.out (by kernel_rfl)) ?_
                                      have hcz77_0 : w75.cell? ⟨gb186, 0, none⟩ = some (.string x187000_2) := (blk_cell BK186.out 0).trans rfl
                                      have hcz77_1 : w75.cell? ⟨gb186, 1, none⟩ = some (.int .u8 t176) := (blk_cell BK186.out 1).trans rfl
                                      have hcz77_2 : w75.cell? ⟨gb186, 2, none⟩ = some (.int .i64 t177) := (blk_cell BK186.out 2).trans rfl
                                      have hcz77_3 : w75.cell? ⟨gb186, 3, none⟩ = some (.bool true) := (blk_cell BK186.out 3).trans rfl
                                      have hcz77_4 : w75.cell? ⟨gb186, 4, none⟩ = some (.bool t179) := (blk_cell BK186.out 4).trans rfl
                                      have hcz77_5 : w75.cell? ⟨gb186, 5, none⟩ = some (.bool t180) := (blk_cell BK186.out 5).trans rfl
                                      have hcz77_6 : w75.cell? ⟨gb186, 6, none⟩ = some (.int .i64 (wrap64 (Int.tdiv t208 16384))) := (blk_cell BK186.out 6).trans rfl
                                      have hcz77_7 : w75.cell? ⟨gb186, 7, none⟩ = some (.int .i64 (rd y209 (rd l0 329))) := (blk_cell BK186.out 7).trans rfl
                                      have hcz77_8 : w75.cell? ⟨gb186, 8, none⟩ = some (.int .u8 t190) := (blk_cell BK186.out 8).trans rfl
                                      have hcz77_9 : w75.cell? ⟨gb186, 9, none⟩ = some (.int .u16 t184) := (blk_cell BK186.out 9).trans rfl
                                      have hfz77_0 := blk_frozen BK186.out 0
                                      have hfz77_1 := blk_frozen BK186.out 1
                                      have hfz77_2 := blk_frozen BK186.out 2
                                      have hfz77_3 := blk_frozen BK186.out 3
                                      have hfz77_4 := blk_frozen BK186.out 4
                                      have hfz77_5 := blk_frozen BK186.out 5
                                      have hfz77_6 := blk_frozen BK186.out 6
                                      have hfz77_7 := blk_frozen BK186.out 7
                                      have hfz77_8 := blk_frozen BK186.out 8
                                      have hfz77_9 := blk_frozen BK186.out 9
                                      have hcz78_0 : w75.cell? ⟨gb173, 0, none⟩ = some (.string (⟨#[]⟩ : ByteArray)) := (blk_cell BK173.out 0).trans rfl
                                      have hcz78_1 : w75.cell? ⟨gb173, 1, none⟩ = some (.int .u8 0) := (blk_cell BK173.out 1).trans rfl
                                      have hcz78_2 : w75.cell? ⟨gb173, 2, none⟩ = some (.int .i64 0) := (blk_cell BK173.out 2).trans rfl
                                      have hcz78_3 : w75.cell? ⟨gb173, 3, none⟩ = some (.bool false) := (blk_cell BK173.out 3).trans rfl
                                      have hcz78_4 : w75.cell? ⟨gb173, 4, none⟩ = some (.bool false) := (blk_cell BK173.out 4).trans rfl
                                      have hcz78_5 : w75.cell? ⟨gb173, 5, none⟩ = some (.bool false) := (blk_cell BK173.out 5).trans rfl
                                      have hcz78_6 : w75.cell? ⟨gb173, 6, none⟩ = some (.int .i64 0) := (blk_cell BK173.out 6).trans rfl
                                      have hcz78_7 : w75.cell? ⟨gb173, 7, none⟩ = some (.int .i64 0) := (blk_cell BK173.out 7).trans rfl
                                      have hcz78_8 : w75.cell? ⟨gb173, 8, none⟩ = some (.int .u8 0) := (blk_cell BK173.out 8).trans rfl
                                      have hcz78_9 : w75.cell? ⟨gb173, 9, none⟩ = some (.int .u16 0) := (blk_cell BK173.out 9).trans rfl
                                      have hfz78_0 := blk_frozen BK173.out 0
                                      have hfz78_1 := blk_frozen BK173.out 1
                                      have hfz78_2 := blk_frozen BK173.out 2
                                      have hfz78_3 := blk_frozen BK173.out 3
                                      have hfz78_4 := blk_frozen BK173.out 4
                                      have hfz78_5 := blk_frozen BK173.out 5
                                      have hfz78_6 := blk_frozen BK173.out 6
                                      have hfz78_7 := blk_frozen BK173.out 7
                                      have hfz78_8 := blk_frozen BK173.out 8
                                      have hfz78_9 := blk_frozen BK173.out 9
                                      try go_wp2
                                      refine bodyPost_ret (results_ct rfl _ _ gb173 26 #[.string x187000_2, .int .u8 t176, .int .i64 t177, .bool true, .bool t179, .bool t180, .int .i64 (wrap64 (Int.tdiv t208 16384)), .int .i64 (rd y209 (rd l0 329)), .int .u8 t190, .int .u16 (IntKind.u16.wrap (wrap64 ((wrap64 (256 * (wrap64 (rd l0 334)))) + (wrap64 (rd l0 335)))))] (0, 0) _ rfl (by (with_reducible repeat (first | refine blk_drewN ?_ _ | refine blk_drew ?_ | refine blk_alloc ?_ _)); refine blk_put (cs := #[.string x187000_2, .int .u8 t176, .int .i64 t177, .bool true, .bool t179, .bool t180, .int .i64 (wrap64 (Int.tdiv t208 16384)), .int .i64 (rd y209 (rd l0 329)), .int .u8 t190, .int .u16 0]) ?_ 9 _ rfl; (with_reducible repeat (first | refine blk_drewN ?_ _ | refine blk_drew ?_ | refine blk_alloc ?_ _)); refine blk_put (cs := #[.string x187000_2, .int .u8 t176, .int .i64 t177, .bool true, .bool t179, .bool t180, .int .i64 (wrap64 (Int.tdiv t208 16384)), .int .i64 (rd y209 (rd l0 329)), .int .u8 0, .int .u16 0]) ?_ 8 _ rfl; (with_reducible repeat (first | refine blk_drewN ?_ _ | refine blk_drew ?_ | refine blk_alloc ?_ _)); refine blk_put (cs := #[.string x187000_2, .int .u8 t176, .int .i64 t177, .bool true, .bool t179, .bool t180, .int .i64 (wrap64 (Int.tdiv t208 16384)), .int .i64 0, .int .u8 0, .int .u16 0]) ?_ 7 _ rfl; (with_reducible repeat (first | refine blk_drewN ?_ _ | refine blk_drew ?_ | refine blk_alloc ?_ _)); refine blk_put (cs := #[.string x187000_2, .int .u8 t176, .int .i64 t177, .bool true, .bool t179, .bool t180, .int .i64 0, .int .i64 0, .int .u8 0, .int .u16 0]) ?_ 6 _ rfl; (with_reducible repeat (first | refine blk_drewN ?_ _ | refine blk_drew ?_ | refine blk_alloc ?_ _)); refine blk_put (cs := #[.string x187000_2, .int .u8 t176, .int .i64 t177, .bool true, .bool t179, .bool false, .int .i64 0, .int .i64 0, .int .u8 0, .int .u16 0]) ?_ 5 _ rfl; (with_reducible repeat (first | refine blk_drewN ?_ _ | refine blk_drew ?_ | refine blk_alloc ?_ _)); refine blk_put (cs := #[.string x187000_2, .int .u8 t176, .int .i64 t177, .bool true, .bool false, .bool false, .int .i64 0, .int .i64 0, .int .u8 0, .int .u16 0]) ?_ 4 _ rfl; (with_reducible repeat (first | refine blk_drewN ?_ _ | refine blk_drew ?_ | refine blk_alloc ?_ _)); refine blk_put (cs := #[.string x187000_2, .int .u8 t176, .int .i64 t177, .bool false, .bool false, .bool false, .int .i64 0, .int .i64 0, .int .u8 0, .int .u16 0]) ?_ 3 _ rfl; (with_reducible repeat (first | refine blk_drewN ?_ _ | refine blk_drew ?_ | refine blk_alloc ?_ _)); refine blk_put (cs := #[.string x187000_2, .int .u8 t176, .int .i64 0, .bool false, .bool false, .bool false, .int .i64 0, .int .i64 0, .int .u8 0, .int .u16 0]) ?_ 2 _ rfl; (with_reducible repeat (first | refine blk_drewN ?_ _ | refine blk_drew ?_ | refine blk_alloc ?_ _)); refine blk_put (cs := #[.string x187000_2, .int .u8 0, .int .i64 0, .bool false, .bool false, .bool false, .int .i64 0, .int .i64 0, .int .u8 0, .int .u16 0]) ?_ 1 _ rfl; (with_reducible repeat (first | refine blk_drewN ?_ _ | refine blk_drew ?_ | refine blk_alloc ?_ _)); refine blk_put (cs := #[.string (⟨#[]⟩ : ByteArray), .int .u8 0, .int .i64 0, .bool false, .bool false, .bool false, .int .i64 0, .int .i64 0, .int .u8 0, .int .u16 0]) ?_ 0 _ rfl; (with_reducible repeat (first | refine blk_drewN ?_ _ | refine blk_drew ?_ | refine blk_alloc ?_ _)); refine blk_far ?_ NB173_186.out _; (with_reducible repeat (first | refine blk_drewN ?_ _ | refine blk_drew ?_ | refine blk_alloc ?_ _)); exact BK173.out) Try.underlying26 rfl (by kernel_rfl)) rfl ?_
                                      exact ⟨by first | rfl | (simp [errW_none, errW_some] <;> rfl) | (simp [*, errW_none, errW_some] <;> rfl), by repeat (first | (with_reducible first | exact HB.out | apply below_alloc | apply pw_below_drewN | apply below_drew1 | refine below_set ?_ GE173.out | refine below_set ?_ GE186.out) | exact HB.out)⟩
                                    · rw [if_neg c67] at H
                                      exact absurd H (by simp)
                                  · rw [if_neg c66] at H
                                    exact absurd H (by simp)
                                · rw [if_neg c65] at H
                                  exact absurd H (by simp)
                              · rw [if_neg c64] at H
                                exact absurd H (by simp)
                            · replace c63 := Bool.eq_false_iff.mpr c63
                              subst c63
                              have H1 : (if 334 < (l0.length : Int) then (if 335 < (l0.length : Int) then (some (x187000_2, t176, t177, false, t179, t180, wrap64 (Int.tdiv t208 16384), t182, t190, IntKind.u16.wrap (wrap64 ((wrap64 (256 * (wrap64 (rd l0 334)))) + (wrap64 (rd l0 335)))), 0)) else (none)) else (none)) = some (r1, r2, r3, r4, r5, r6, r7, r8, r9, r10, r11) := by rw [if_neg (show ¬ (false = true) by decide)] at H; exact H
                              clear H
                              have H := H1
                              clear H1
                              by_cases c79 : 334 < (l0.length : Int)
                              · rw [if_pos c79] at H
                                have c79b0 : decide (334 < (l0.length : Int)) = true := decide_eq_true c79
                                have c79b1 : decide (334 < l0.length) = true := decide_eq_true (by omega)
                                clear c79
                                by_cases c80 : 335 < (l0.length : Int)
                                · rw [if_pos c80] at H
                                  have c80b0 : decide (335 < (l0.length : Int)) = true := decide_eq_true c80
                                  have c80b1 : decide (335 < l0.length) = true := decide_eq_true (by omega)
                                  clear c80
                                  simp only [Option.some.injEq, Prod.mk.injEq] at H
                                  obtain ⟨rfl, rfl, rfl, rfl, rfl, rfl, rfl, rfl, rfl, rfl, rfl⟩ := H
                                  try go_wp2_with (first | ((with_reducible refine gate_callee (f := 26) rfl ?_); refine goesL_ (some 79) rfl rfl Try.func26 (by kernel_rfl) rfl #[.int .u8 (rd l0 328)] rfl (by (try simp only [List.map_toArray, List.map_cons, List.map_nil]); first | done | rfl | (simp only [List.length_drop, List.length_take]; rfl)) ?_; (with_reducible refine (whirligigref07_Most.calls k2 (rd l0 328) t208 _ A62.out).mono ?_); rintro e w' ⟨rfl, ⟨nd, rfl⟩⟩; refine ⟨_, rfl, ?_⟩; (try (rw [drewN_self wr]; generalize hq_ : World.drewN wr _ = wr; have n0_ : Aside0 (wr.heap[gb173]? = some (.cells #[.string (⟨#[]⟩ : ByteArray), .int .u8 0, .int .i64 0, .bool false, .bool false, .bool false, .int .i64 0, .int .i64 0, .int .u8 0, .int .u16 0] 26 (0, 0))) := ⟨by rw [← hq_]; exact (by (with_reducible repeat (first | refine blk_drewN ?_ _ | refine blk_drew ?_ | refine blk_alloc ?_ _)); exact BK173.out)⟩; have n1_ : Aside0 (wr.heap[gb186]? = some (.cells #[.string x187000_2, .int .u8 t176, .int .i64 t177, .bool false, .bool t179, .bool t180, .int .i64 t181, .int .i64 t182, .int .u8 t183, .int .u16 t184] 26 (0, 0))) := ⟨by rw [← hq_]; exact (by (with_reducible repeat (first | refine blk_drewN ?_ _ | refine blk_drew ?_ | refine blk_alloc ?_ _)); exact BK186.out)⟩; have n2_ : Aside0 (Below w.heap.size w wr) := ⟨by rw [← hq_]; exact (by repeat (first | (with_reducible first | exact HB.out | apply below_alloc | apply pw_below_drewN | apply below_drew1 | refine below_set ?_ GE173.out | refine below_set ?_ GE186.out) | exact HB.out))⟩; clear BK173 BK186 HB hq_; have BK173 := n0_; have BK186 := n1_; have HB := n2_; clear n0_ n1_ n2_)); have hnb81 := NB186_173.out; have hnc81 := NB173_186.out; have hcz82_0 : wr.cell? ⟨gb186, 0, none⟩ = some (.string x187000_2) := (blk_cell BK186.out 0).trans rfl; have hcz82_1 : wr.cell? ⟨gb186, 1, none⟩ = some (.int .u8 t176) := (blk_cell BK186.out 1).trans rfl; have hcz82_2 : wr.cell? ⟨gb186, 2, none⟩ = some (.int .i64 t177) := (blk_cell BK186.out 2).trans rfl; have hcz82_3 : wr.cell? ⟨gb186, 3, none⟩ = some (.bool false) := (blk_cell BK186.out 3).trans rfl; have hcz82_4 : wr.cell? ⟨gb186, 4, none⟩ = some (.bool t179) := (blk_cell BK186.out 4).trans rfl; have hcz82_5 : wr.cell? ⟨gb186, 5, none⟩ = some (.bool t180) := (blk_cell BK186.out 5).trans rfl; have hcz82_6 : wr.cell? ⟨gb186, 6, none⟩ = some (.int .i64 t181) := (blk_cell BK186.out 6).trans rfl; have hcz82_7 : wr.cell? ⟨gb186, 7, none⟩ = some (.int .i64 t182) := (blk_cell BK186.out 7).trans rfl; have hcz82_8 : wr.cell? ⟨gb186, 8, none⟩ = some (.int .u8 t183) := (blk_cell BK186.out 8).trans rfl; have hcz82_9 : wr.cell? ⟨gb186, 9, none⟩ = some (.int .u16 t184) := (blk_cell BK186.out 9).trans rfl; have hfz82_0 := blk_frozen BK186.out 0; have hfz82_1 := blk_frozen BK186.out 1; have hfz82_2 := blk_frozen BK186.out 2; have hfz82_3 := blk_frozen BK186.out 3; have hfz82_4 := blk_frozen BK186.out 4; have hfz82_5 := blk_frozen BK186.out 5; have hfz82_6 := blk_frozen BK186.out 6; have hfz82_7 := blk_frozen BK186.out 7; have hfz82_8 := blk_frozen BK186.out 8; have hfz82_9 := blk_frozen BK186.out 9))
                                  have n0_ : Aside0 (((wr.setCell ⟨gb186, 6, none⟩ (.int .i64 (wrap64 (Int.tdiv t208 16384)))).setCell ⟨gb186, 8, none⟩ (.int .u8 t190)).heap[gb173]? = some (.cells #[.string (⟨#[]⟩ : ByteArray), .int .u8 0, .int .i64 0, .bool false, .bool false, .bool false, .int .i64 0, .int .i64 0, .int .u8 0, .int .u16 0] 26 (0, 0))) := ⟨by (with_reducible repeat (first | refine blk_drewN ?_ _ | refine blk_drew ?_ | refine blk_alloc ?_ _)); refine blk_far ?_ NB173_186.out _; (with_reducible repeat (first | refine blk_drewN ?_ _ | refine blk_drew ?_ | refine blk_alloc ?_ _)); refine blk_far ?_ NB173_186.out _; (with_reducible repeat (first | refine blk_drewN ?_ _ | refine blk_drew ?_ | refine blk_alloc ?_ _)); exact BK173.out⟩
                                  have n1_ : Aside0 (((wr.setCell ⟨gb186, 6, none⟩ (.int .i64 (wrap64 (Int.tdiv t208 16384)))).setCell ⟨gb186, 8, none⟩ (.int .u8 t190)).heap[gb186]? = some (.cells #[.string x187000_2, .int .u8 t176, .int .i64 t177, .bool false, .bool t179, .bool t180, .int .i64 (wrap64 (Int.tdiv t208 16384)), .int .i64 t182, .int .u8 t190, .int .u16 t184] 26 (0, 0))) := ⟨by (with_reducible repeat (first | refine blk_drewN ?_ _ | refine blk_drew ?_ | refine blk_alloc ?_ _)); refine blk_put (cs := #[.string x187000_2, .int .u8 t176, .int .i64 t177, .bool false, .bool t179, .bool t180, .int .i64 (wrap64 (Int.tdiv t208 16384)), .int .i64 t182, .int .u8 t183, .int .u16 t184]) ?_ 8 _ rfl; (with_reducible repeat (first | refine blk_drewN ?_ _ | refine blk_drew ?_ | refine blk_alloc ?_ _)); refine blk_put (cs := #[.string x187000_2, .int .u8 t176, .int .i64 t177, .bool false, .bool t179, .bool t180, .int .i64 t181, .int .i64 t182, .int .u8 t183, .int .u16 t184]) ?_ 6 _ rfl; (with_reducible repeat (first | refine blk_drewN ?_ _ | refine blk_drew ?_ | refine blk_alloc ?_ _)); exact BK186.out⟩
                                  have n2_ : Aside0 (Below w.heap.size w ((wr.setCell ⟨gb186, 6, none⟩ (.int .i64 (wrap64 (Int.tdiv t208 16384)))).setCell ⟨gb186, 8, none⟩ (.int .u8 t190))) := ⟨by repeat (first | (with_reducible first | exact HB.out | apply below_alloc | apply pw_below_drewN | apply below_drew1 | refine below_set ?_ GE173.out | refine below_set ?_ GE186.out) | exact HB.out)⟩
                                  (try clear BK173)
                                  (try clear BK186)
                                  (try clear HB)
                                  generalize ((wr.setCell ⟨gb186, 6, none⟩ (.int .i64 (wrap64 (Int.tdiv t208 16384)))).setCell ⟨gb186, 8, none⟩ (.int .u8 t190)) = w83 at n0_ n1_ n2_ ⊢
                                  have BK173 := n0_
                                  have BK186 := n1_
                                  have HB := n2_
                                  clear n0_ n1_ n2_
                                  have n0_ := Aside0.mk (blk_drew BK173.out)
                                  have n1_ := Aside0.mk (blk_drew BK186.out)
                                  have n2_ := Aside0.mk (below_drew1 HB.out)
                                  clear BK173
                                  clear BK186
                                  clear HB
                                  have BK173 := n0_
                                  have BK186 := n1_
                                  have HB := n2_
                                  clear n0_ n1_ n2_
                                  have p215 : 0 ≤ (334 : Int) := (by omega)
                                  have q215 : 334 < (l0.length : Int) := of_decide_eq_true (by first | (with_reducible assumption) | assumption)
                                  obtain ⟨ad215, e215, hx215_0⟩ := Kd.at_int HR0.out 334 p215 q215
                                  have hw215_0 := hx215_0
                                  (try rw [show ((334 : Int)).toNat = 334 from rfl] at hw215_0)
                                  (try rw [show 334 * 1 = 334 from rfl] at hw215_0)
                                  (try simp only [Nat.reduceMul, Nat.reduceEqDiff, Go.Addr.add, ↓reduceIte] at hw215_0)
                                  obtain rfl : ad174 = ad215 := (by injection e215)
                                  (try simp only [show (334 : Int).toNat = 334 from rfl, Nat.reduceMul, Nat.reduceEqDiff, Go.Addr.add, ↓reduceIte] at hx215_0)
                                  have qi215 : (334 < l0.length) = True := eq_true (by omega)
                                  (try rw [show ((334 : Int)).toNat = 334 from rfl] at hx215_0)
                                  replace hx215_0 := (HB.out.cell (World.block_lt_of_cell? w _ hx215_0)).trans hx215_0
                                  replace p215 := eq_true p215
                                  replace q215 := eq_true q215
                                  have p216 : 0 ≤ (335 : Int) := (by omega)
                                  have q216 : 335 < (l0.length : Int) := of_decide_eq_true (by first | (with_reducible assumption) | assumption)
                                  obtain ⟨ad216, e216, hx216_0⟩ := Kd.at_int HR0.out 335 p216 q216
                                  have hw216_0 := hx216_0
                                  (try rw [show ((335 : Int)).toNat = 335 from rfl] at hw216_0)
                                  (try rw [show 335 * 1 = 335 from rfl] at hw216_0)
                                  (try simp only [Nat.reduceMul, Nat.reduceEqDiff, Go.Addr.add, ↓reduceIte] at hw216_0)
                                  obtain rfl : ad174 = ad216 := (by injection e216)
                                  (try simp only [show (335 : Int).toNat = 335 from rfl, Nat.reduceMul, Nat.reduceEqDiff, Go.Addr.add, ↓reduceIte] at hx216_0)
                                  have qi216 : (335 < l0.length) = True := eq_true (by omega)
                                  (try rw [show ((335 : Int)).toNat = 335 from rfl] at hx216_0)
                                  replace hx216_0 := (HB.out.cell (World.block_lt_of_cell? w _ hx216_0)).trans hx216_0
                                  replace p216 := eq_true p216
                                  replace q216 := eq_true q216
                                  refine start_ (n := 13) (S := fun w' => w'.cell? ⟨ad174.block, ad174.off + 334, none⟩ = some (.int .u8 (rd l0 334)) ∧ w'.cell? ⟨ad174.block, ad174.off + 335, none⟩ = some (.int .u8 (rd l0 335))) (ds := []) #[false, false, false, false, false, false, false, false, false, false, false, false, false] (by kernel_rfl) rfl rfl ⟨((HB.out.cell (World.block_lt_of_cell? w _ hw215_0)).trans hw215_0), ((HB.out.cell (World.block_lt_of_cell? w _ hw216_0)).trans hw216_0)⟩ (fun hHeld => ?_); refine with_tabW whirligigref07_Parse.tab22 whirligigref07_Parse.bits22 (fun HT_ HW_ => ?_)
                                  generalize w83.drew = w84 at BK173 BK186 HB hx215_0 hx216_0 hHeld ⊢
                                  refine pure_ (i := 0) (N := some 92) (v := ?_) (a' := ?_) #[true, false, false, false, false, false, false, false, false, false, false, false, false] rfl rfl (any_of HT_.out (by kernel_rfl)) (fun _ _ _ h => h) (Or.inl ⟨by rfl, ?_⟩) ?_ ?_
                                  rotate_left
                                  · intro w'
                                    go_simp
                                    with_reducible rfl
                                  rotate_left
                                  · simp only [Act.put, List.setIfInBounds_toArray, List.set_cons_zero, List.set_cons_succ, i64_w, i32_w]
                                    rfl
                                  refine pure_ (i := 1) (N := some 93) (v := ?_) (a' := ?_) #[true, true, false, false, false, false, false, false, false, false, false, false, false] rfl rfl (any_of HT_.out (by kernel_rfl)) (fun _ _ _ h => h) (Or.inl ⟨by rfl, ?_⟩) ?_ ?_
                                  rotate_left
                                  · intro w'
                                    go_simp
                                    with_reducible rfl
                                  rotate_left
                                  · simp only [Act.put, List.setIfInBounds_toArray, List.set_cons_zero, List.set_cons_succ, i64_w, i32_w]
                                    rfl
                                  refine pure_ (i := 5) (N := some 97) (v := ?_) (a' := ?_) #[true, true, false, false, false, true, false, false, false, false, false, false, false] rfl rfl (any_of HT_.out (by kernel_rfl)) (fun _ _ _ h => h) (Or.inl ⟨by rfl, ?_⟩) ?_ ?_
                                  rotate_left
                                  · intro w'
                                    go_simp
                                    with_reducible rfl
                                  rotate_left
                                  · simp only [Act.put, List.setIfInBounds_toArray, List.set_cons_zero, List.set_cons_succ, i64_w, i32_w]
                                    rfl
                                  refine pure_ (i := 6) (N := some 98) (v := ?_) (a' := ?_) #[true, true, false, false, false, true, true, false, false, false, false, false, false] rfl rfl (any_of HT_.out (by kernel_rfl)) (fun _ _ _ h => h) (Or.inl ⟨by rfl, ?_⟩) ?_ ?_
                                  rotate_left
                                  · intro w'
                                    go_simp
                                    with_reducible rfl
                                  rotate_left
                                  · simp only [Act.put, List.setIfInBounds_toArray, List.set_cons_zero, List.set_cons_succ, i64_w, i32_w]
                                    rfl
                                  refine take_ (i := 2) (N := some 94) (v := ?_) (a' := ?_) #[true, true, true, false, false, true, true, false, false, false, false, false, false] rfl rfl (take_ofW HT_.out HW_.out (by kernel_rfl)) (fun _ _ _ h => h) (Or.inl ⟨by rfl, ?_⟩) hHeld ?_ ?_
                                  rotate_left
                                  · rintro w' ⟨s0, s1⟩
                                    go_simp
                                    with_reducible rfl
                                  rotate_left
                                  · simp only [Act.put, List.setIfInBounds_toArray, List.set_cons_zero, List.set_cons_succ, i64_w, i32_w]
                                    rfl
                                  refine pure_ (i := 3) (N := some 95) (v := ?_) (a' := ?_) #[true, true, true, true, false, true, true, false, false, false, false, false, false] rfl rfl (any_of HT_.out (by kernel_rfl)) (fun _ _ _ h => h) (Or.inl ⟨by rfl, ?_⟩) ?_ ?_
                                  rotate_left
                                  · intro w'
                                    go_simp
                                    with_reducible rfl
                                  rotate_left
                                  · simp only [Act.put, List.setIfInBounds_toArray, List.set_cons_zero, List.set_cons_succ, i64_w, i32_w]
                                    rfl
                                  refine pure_ (i := 4) (N := some 96) (v := ?_) (a' := ?_) #[true, true, true, true, true, true, true, false, false, false, false, false, false] rfl rfl (any_of HT_.out (by kernel_rfl)) (fun _ _ _ h => h) (Or.inl ⟨by rfl, ?_⟩) ?_ ?_
                                  rotate_left
                                  · intro w'
                                    go_simp
                                    with_reducible rfl
                                  rotate_left
                                  · simp only [Act.put, List.setIfInBounds_toArray, List.set_cons_zero, List.set_cons_succ, i64_w, i32_w]
                                    rfl
                                  refine take_ (i := 7) (N := some 99) (v := ?_) (a' := ?_) #[true, true, true, true, true, true, true, true, false, false, false, false, false] rfl rfl (take_ofW HT_.out HW_.out (by kernel_rfl)) (fun _ _ _ h => h) (Or.inl ⟨by rfl, ?_⟩) hHeld ?_ ?_
                                  rotate_left
                                  · rintro w' ⟨s0, s1⟩
                                    go_simp
                                    with_reducible rfl
                                  rotate_left
                                  · simp only [Act.put, List.setIfInBounds_toArray, List.set_cons_zero, List.set_cons_succ, i64_w, i32_w]
                                    rfl
                                  refine pure_ (i := 8) (N := some 100) (v := ?_) (a' := ?_) #[true, true, true, true, true, true, true, true, true, false, false, false, false] rfl rfl (any_of HT_.out (by kernel_rfl)) (fun _ _ _ h => h) (Or.inl ⟨by rfl, ?_⟩) ?_ ?_
                                  rotate_left
                                  · intro w'
                                    go_simp
                                    with_reducible rfl
                                  rotate_left
                                  · simp only [Act.put, List.setIfInBounds_toArray, List.set_cons_zero, List.set_cons_succ, i64_w, i32_w]
                                    rfl
                                  refine pure_ (i := 9) (N := some 101) (v := ?_) (a' := ?_) #[true, true, true, true, true, true, true, true, true, true, false, false, false] rfl rfl (any_of HT_.out (by kernel_rfl)) (fun _ _ _ h => h) (Or.inl ⟨by rfl, ?_⟩) ?_ ?_
                                  rotate_left
                                  · intro w'
                                    go_simp
                                    with_reducible rfl
                                  rotate_left
                                  · simp only [Act.put, List.setIfInBounds_toArray, List.set_cons_zero, List.set_cons_succ, i64_w, i32_w]
                                    rfl
                                  refine pure_ (i := 10) (N := some 102) (v := ?_) (a' := ?_) #[true, true, true, true, true, true, true, true, true, true, true, false, false] rfl rfl (any_of HT_.out (by kernel_rfl)) (fun _ _ _ h => h) (Or.inl ⟨by rfl, ?_⟩) ?_ ?_
                                  rotate_left
                                  · intro w'
                                    go_simp
                                    with_reducible rfl
                                  rotate_left
                                  · simp only [Act.put, List.setIfInBounds_toArray, List.set_cons_zero, List.set_cons_succ, i64_w, i32_w]
                                    rfl
                                  refine pure_ (i := 11) (N := some 103) (v := ?_) (a' := ?_) #[true, true, true, true, true, true, true, true, true, true, true, true, false] rfl rfl (any_of HT_.out (by kernel_rfl)) (fun _ _ _ h => h) (Or.inl ⟨by rfl, ?_⟩) ?_ ?_
                                  rotate_left
                                  · intro w'
                                    go_simp
                                    with_reducible rfl
                                  rotate_left
                                  · simp only [Act.put, List.setIfInBounds_toArray, List.set_cons_zero, List.set_cons_succ, i64_w, i32_w]
                                    rfl
                                  refine one_ (i := 12) (N := none) #[true, true, true, true, true, true, true, true, true, true, true, true, true] rfl rfl (one_of HT_.out (by kernel_rfl)) (by decide) (fun K hK => ?_)
                                  have hs85 : w84.cell? ⟨gb186, 9, none⟩ = some (.int .u16 t184) := (blk_cell BK186.out 9).trans rfl
                                  have hfs85 := blk_frozen BK186.out 9
                                  have hns85_0 := NB173_186.out
                                  have hms85_0 := NB186_173.out
                                  refine skip_ (w1 := ?_) (by rfl) rfl ?_ ?_
                                  rotate_left
                                  · go_simp
                                    rfl
                                  refine hK.out _ _ ⟨((cell_far (p := ⟨gb186, _, none⟩) (by first | exact Nat.ne_of_lt (Nat.lt_of_lt_of_le (by have := World.block_lt_of_cell? _ _ hw215_0; first | rwa [add_block] at this | exact this) GW186.out) | (rw [add_block]; exact Nat.ne_of_lt (Nat.lt_of_lt_of_le (by have := World.block_lt_of_cell? _ _ hw215_0; first | rwa [add_block] at this | exact this) GW186.out)) | (show (Addr.add _ _).block ≠ _; rw [add_block]; exact Nat.ne_of_lt (Nat.lt_of_lt_of_le (by have := World.block_lt_of_cell? _ _ hw215_0; first | rwa [add_block] at this | exact this) GW186.out)) | (dsimp only; exact Nat.ne_of_lt (Nat.lt_of_lt_of_le (by have := World.block_lt_of_cell? _ _ hw215_0; first | rwa [add_block] at this | exact this) GW186.out))) _).trans (hHeld.1)), ((cell_far (p := ⟨gb186, _, none⟩) (by first | exact Nat.ne_of_lt (Nat.lt_of_lt_of_le (by have := World.block_lt_of_cell? _ _ hw216_0; first | rwa [add_block] at this | exact this) GW186.out) | (rw [add_block]; exact Nat.ne_of_lt (Nat.lt_of_lt_of_le (by have := World.block_lt_of_cell? _ _ hw216_0; first | rwa [add_block] at this | exact this) GW186.out)) | (show (Addr.add _ _).block ≠ _; rw [add_block]; exact Nat.ne_of_lt (Nat.lt_of_lt_of_le (by have := World.block_lt_of_cell? _ _ hw216_0; first | rwa [add_block] at this | exact this) GW186.out)) | (dsimp only; exact Nat.ne_of_lt (Nat.lt_of_lt_of_le (by have := World.block_lt_of_cell? _ _ hw216_0; first | rwa [add_block] at this | exact this) GW186.out))) _).trans (hHeld.2))⟩ (fun hHeld => ?_)
                                  clear hK K
                                  refine done_ (done_of HT_.out (by kernel_rfl)) ?_
                                  have hcz86_0 : w84.cell? ⟨gb186, 0, none⟩ = some (.string x187000_2) := (blk_cell BK186.out 0).trans rfl
                                  have hcz86_1 : w84.cell? ⟨gb186, 1, none⟩ = some (.int .u8 t176) := (blk_cell BK186.out 1).trans rfl
                                  have hcz86_2 : w84.cell? ⟨gb186, 2, none⟩ = some (.int .i64 t177) := (blk_cell BK186.out 2).trans rfl
                                  have hcz86_3 : w84.cell? ⟨gb186, 3, none⟩ = some (.bool false) := (blk_cell BK186.out 3).trans rfl
                                  have hcz86_4 : w84.cell? ⟨gb186, 4, none⟩ = some (.bool t179) := (blk_cell BK186.out 4).trans rfl
                                  have hcz86_5 : w84.cell? ⟨gb186, 5, none⟩ = some (.bool t180) := (blk_cell BK186.out 5).trans rfl
                                  have hcz86_6 : w84.cell? ⟨gb186, 6, none⟩ = some (.int .i64 (wrap64 (Int.tdiv t208 16384))) := (blk_cell BK186.out 6).trans rfl
                                  have hcz86_7 : w84.cell? ⟨gb186, 7, none⟩ = some (.int .i64 t182) := (blk_cell BK186.out 7).trans rfl
                                  have hcz86_8 : w84.cell? ⟨gb186, 8, none⟩ = some (.int .u8 t190) := (blk_cell BK186.out 8).trans rfl
                                  have hcz86_9 : w84.cell? ⟨gb186, 9, none⟩ = some (.int .u16 t184) := (blk_cell BK186.out 9).trans rfl
                                  have hfz86_0 := blk_frozen BK186.out 0
                                  have hfz86_1 := blk_frozen BK186.out 1
                                  have hfz86_2 := blk_frozen BK186.out 2
                                  have hfz86_3 := blk_frozen BK186.out 3
                                  have hfz86_4 := blk_frozen BK186.out 4
                                  have hfz86_5 := blk_frozen BK186.out 5
                                  have hfz86_6 := blk_frozen BK186.out 6
                                  have hfz86_7 := blk_frozen BK186.out 7
                                  have hfz86_8 := blk_frozen BK186.out 8
                                  have hfz86_9 := blk_frozen BK186.out 9
                                  have hcz87_0 : w84.cell? ⟨gb173, 0, none⟩ = some (.string (⟨#[]⟩ : ByteArray)) := (blk_cell BK173.out 0).trans rfl
                                  have hcz87_1 : w84.cell? ⟨gb173, 1, none⟩ = some (.int .u8 0) := (blk_cell BK173.out 1).trans rfl
                                  have hcz87_2 : w84.cell? ⟨gb173, 2, none⟩ = some (.int .i64 0) := (blk_cell BK173.out 2).trans rfl
                                  have hcz87_3 : w84.cell? ⟨gb173, 3, none⟩ = some (.bool false) := (blk_cell BK173.out 3).trans rfl
                                  have hcz87_4 : w84.cell? ⟨gb173, 4, none⟩ = some (.bool false) := (blk_cell BK173.out 4).trans rfl
                                  have hcz87_5 : w84.cell? ⟨gb173, 5, none⟩ = some (.bool false) := (blk_cell BK173.out 5).trans rfl
                                  have hcz87_6 : w84.cell? ⟨gb173, 6, none⟩ = some (.int .i64 0) := (blk_cell BK173.out 6).trans rfl
                                  have hcz87_7 : w84.cell? ⟨gb173, 7, none⟩ = some (.int .i64 0) := (blk_cell BK173.out 7).trans rfl
                                  have hcz87_8 : w84.cell? ⟨gb173, 8, none⟩ = some (.int .u8 0) := (blk_cell BK173.out 8).trans rfl
                                  have hcz87_9 : w84.cell? ⟨gb173, 9, none⟩ = some (.int .u16 0) := (blk_cell BK173.out 9).trans rfl
                                  have hfz87_0 := blk_frozen BK173.out 0
                                  have hfz87_1 := blk_frozen BK173.out 1
                                  have hfz87_2 := blk_frozen BK173.out 2
                                  have hfz87_3 := blk_frozen BK173.out 3
                                  have hfz87_4 := blk_frozen BK173.out 4
                                  have hfz87_5 := blk_frozen BK173.out 5
                                  have hfz87_6 := blk_frozen BK173.out 6
                                  have hfz87_7 := blk_frozen BK173.out 7
                                  have hfz87_8 := blk_frozen BK173.out 8
                                  have hfz87_9 := blk_frozen BK173.out 9
                                  try go_wp2
                                  refine bodyPost_ret (results_ct rfl _ _ gb173 26 #[.string x187000_2, .int .u8 t176, .int .i64 t177, .bool false, .bool t179, .bool t180, .int .i64 (wrap64 (Int.tdiv t208 16384)), .int .i64 t182, .int .u8 t190, .int .u16 (IntKind.u16.wrap (wrap64 ((wrap64 (256 * (wrap64 (rd l0 334)))) + (wrap64 (rd l0 335)))))] (0, 0) _ rfl (by (with_reducible repeat (first | refine blk_drewN ?_ _ | refine blk_drew ?_ | refine blk_alloc ?_ _)); refine blk_put (cs := #[.string x187000_2, .int .u8 t176, .int .i64 t177, .bool false, .bool t179, .bool t180, .int .i64 (wrap64 (Int.tdiv t208 16384)), .int .i64 t182, .int .u8 t190, .int .u16 0]) ?_ 9 _ rfl; (with_reducible repeat (first | refine blk_drewN ?_ _ | refine blk_drew ?_ | refine blk_alloc ?_ _)); refine blk_put (cs := #[.string x187000_2, .int .u8 t176, .int .i64 t177, .bool false, .bool t179, .bool t180, .int .i64 (wrap64 (Int.tdiv t208 16384)), .int .i64 t182, .int .u8 0, .int .u16 0]) ?_ 8 _ rfl; (with_reducible repeat (first | refine blk_drewN ?_ _ | refine blk_drew ?_ | refine blk_alloc ?_ _)); refine blk_put (cs := #[.string x187000_2, .int .u8 t176, .int .i64 t177, .bool false, .bool t179, .bool t180, .int .i64 (wrap64 (Int.tdiv t208 16384)), .int .i64 0, .int .u8 0, .int .u16 0]) ?_ 7 _ rfl; (with_reducible repeat (first | refine blk_drewN ?_ _ | refine blk_drew ?_ | refine blk_alloc ?_ _)); refine blk_put (cs := #[.string x187000_2, .int .u8 t176, .int .i64 t177, .bool false, .bool t179, .bool t180, .int .i64 0, .int .i64 0, .int .u8 0, .int .u16 0]) ?_ 6 _ rfl; (with_reducible repeat (first | refine blk_drewN ?_ _ | refine blk_drew ?_ | refine blk_alloc ?_ _)); refine blk_put (cs := #[.string x187000_2, .int .u8 t176, .int .i64 t177, .bool false, .bool t179, .bool false, .int .i64 0, .int .i64 0, .int .u8 0, .int .u16 0]) ?_ 5 _ rfl; (with_reducible repeat (first | refine blk_drewN ?_ _ | refine blk_drew ?_ | refine blk_alloc ?_ _)); refine blk_put (cs := #[.string x187000_2, .int .u8 t176, .int .i64 t177, .bool false, .bool false, .bool false, .int .i64 0, .int .i64 0, .int .u8 0, .int .u16 0]) ?_ 4 _ rfl; (with_reducible repeat (first | refine blk_drewN ?_ _ | refine blk_drew ?_ | refine blk_alloc ?_ _)); refine blk_put (cs := #[.string x187000_2, .int .u8 t176, .int .i64 t177, .bool false, .bool false, .bool false, .int .i64 0, .int .i64 0, .int .u8 0, .int .u16 0]) ?_ 3 _ rfl; (with_reducible repeat (first | refine blk_drewN ?_ _ | refine blk_drew ?_ | refine blk_alloc ?_ _)); refine blk_put (cs := #[.string x187000_2, .int .u8 t176, .int .i64 0, .bool false, .bool false, .bool false, .int .i64 0, .int .i64 0, .int .u8 0, .int .u16 0]) ?_ 2 _ rfl; (with_reducible repeat (first | refine blk_drewN ?_ _ | refine blk_drew ?_ | refine blk_alloc ?_ _)); refine blk_put (cs := #[.string x187000_2, .int .u8 0, .int .i64 0, .bool false, .bool false, .bool false, .int .i64 0, .int .i64 0, .int .u8 0, .int .u16 0]) ?_ 1 _ rfl; (with_reducible repeat (first | refine blk_drewN ?_ _ | refine blk_drew ?_ | refine blk_alloc ?_ _)); refine blk_put (cs := #[.string (⟨#[]⟩ : ByteArray), .int .u8 0, .int .i64 0, .bool false, .bool false, .bool false, .int .i64 0, .int .i64 0, .int .u8 0, .int .u16 0]) ?_ 0 _ rfl; (with_reducible repeat (first | refine blk_drewN ?_ _ | refine blk_drew ?_ | refine blk_alloc ?_ _)); refine blk_far ?_ NB173_186.out _; (with_reducible repeat (first | refine blk_drewN ?_ _ | refine blk_drew ?_ | refine blk_alloc ?_ _)); exact BK173.out) Try.underlying26 rfl (by kernel_rfl)) rfl ?_
                                  exact ⟨by first | rfl | (simp [errW_none, errW_some] <;> rfl) | (simp [*, errW_none, errW_some] <;> rfl), by repeat (first | (with_reducible first | exact HB.out | apply below_alloc | apply pw_below_drewN | apply below_drew1 | refine below_set ?_ GE173.out | refine below_set ?_ GE186.out) | exact HB.out)⟩
                                · rw [if_neg c80] at H
                                  exact absurd H (by simp)
                              · rw [if_neg c79] at H
                                exact absurd H (by simp)
                    · rw [if_neg c24] at H
                      have c24b0 : (t190 == (rd l0 333)) = false := beq_eq_false_iff_ne.mpr c24
                      have c24b1 : (t190 != (rd l0 333)) = true := bne_iff_ne.mpr c24
                      simp only [Option.some.injEq, Prod.mk.injEq] at H
                      obtain ⟨rfl, rfl, rfl, rfl, rfl, rfl, rfl, rfl, rfl, rfl, rfl⟩ := H
                      go_wp2_with (first | ((with_reducible refine gate_callee (f := 15) rfl ?_); refine goesL_ (some 48) rfl rfl Try.func15 (by kernel_rfl) rfl #[.slice (some ad174) l0.length c0] rfl (by (try simp only [List.map_toArray, List.map_cons, List.map_nil]); first | done | rfl | (simp only [List.length_drop, List.length_take]; rfl)) ?_; (with_reducible refine (whirligigref07_Sum.calls kj9 _ _ l0 t190 t191 _ ?side1 ?side2 A22.out).mono ?_); (case side1 => repeat (first | exact (Kd.C_below HR0.out HB.out) | (with_reducible refine Kd.C_alloc ?_ _) | (with_reducible refine Kd.C_drewN ?_ _) | (with_reducible refine Kd.C_drew ?_))); (case side2 => exact HC0.out); rintro e w' ⟨rfl, ⟨nd, rfl⟩⟩; refine ⟨_, rfl, ?_⟩; (try (rw [drewN_self wc]; generalize hq_ : World.drewN wc _ = wc; have n0_ : Aside0 (wc.heap[gb173]? = some (.cells #[.string (⟨#[]⟩ : ByteArray), .int .u8 0, .int .i64 0, .bool false, .bool false, .bool false, .int .i64 0, .int .i64 0, .int .u8 0, .int .u16 0] 26 (0, 0))) := ⟨by rw [← hq_]; exact (by (with_reducible repeat (first | refine blk_drewN ?_ _ | refine blk_drew ?_ | refine blk_alloc ?_ _)); exact BK173.out)⟩; have n1_ : Aside0 (wc.heap[gb186]? = some (.cells #[.string t175, .int .u8 t176, .int .i64 t177, .bool t178, .bool t179, .bool t180, .int .i64 t181, .int .i64 t182, .int .u8 t183, .int .u16 t184] 26 (0, 0))) := ⟨by rw [← hq_]; exact (by (with_reducible repeat (first | refine blk_drewN ?_ _ | refine blk_drew ?_ | refine blk_alloc ?_ _)); exact BK186.out)⟩; have n2_ : Aside0 (Below w.heap.size w wc) := ⟨by rw [← hq_]; exact (by repeat (first | (with_reducible first | exact HB.out | apply below_alloc | apply pw_below_drewN | apply below_drew1 | refine below_set ?_ GE173.out | refine below_set ?_ GE186.out) | exact HB.out))⟩; clear BK173 BK186 HB hq_; have BK173 := n0_; have BK186 := n1_; have HB := n2_; clear n0_ n1_ n2_)); have p192 : 0 ≤ (333 : Int) := (by omega); have q192 : 333 < (l0.length : Int) := of_decide_eq_true (by first | (with_reducible assumption) | assumption); obtain ⟨ad192, e192, hx192_0⟩ := Kd.at_int HR0.out 333 p192 q192; obtain rfl : ad174 = ad192 := (by injection e192); (try simp only [show (333 : Int).toNat = 333 from rfl, Nat.reduceMul, Nat.reduceEqDiff, Go.Addr.add, ↓reduceIte] at hx192_0); have qi192 : (333 < l0.length) = True := eq_true (by omega); (try rw [show ((333 : Int)).toNat = 333 from rfl] at hx192_0); replace hx192_0 := (HB.out.cell (World.block_lt_of_cell? w _ hx192_0)).trans hx192_0; replace p192 := eq_true p192; replace q192 := eq_true q192; have hnb88 := NB173_186.out; have hnc88 := NB186_173.out; have hcz89_0 : wc.cell? ⟨gb173, 0, none⟩ = some (.string (⟨#[]⟩ : ByteArray)) := (blk_cell BK173.out 0).trans rfl; have hcz89_1 : wc.cell? ⟨gb173, 1, none⟩ = some (.int .u8 0) := (blk_cell BK173.out 1).trans rfl; have hcz89_2 : wc.cell? ⟨gb173, 2, none⟩ = some (.int .i64 0) := (blk_cell BK173.out 2).trans rfl; have hcz89_3 : wc.cell? ⟨gb173, 3, none⟩ = some (.bool false) := (blk_cell BK173.out 3).trans rfl; have hcz89_4 : wc.cell? ⟨gb173, 4, none⟩ = some (.bool false) := (blk_cell BK173.out 4).trans rfl; have hcz89_5 : wc.cell? ⟨gb173, 5, none⟩ = some (.bool false) := (blk_cell BK173.out 5).trans rfl; have hcz89_6 : wc.cell? ⟨gb173, 6, none⟩ = some (.int .i64 0) := (blk_cell BK173.out 6).trans rfl; have hcz89_7 : wc.cell? ⟨gb173, 7, none⟩ = some (.int .i64 0) := (blk_cell BK173.out 7).trans rfl; have hcz89_8 : wc.cell? ⟨gb173, 8, none⟩ = some (.int .u8 0) := (blk_cell BK173.out 8).trans rfl; have hcz89_9 : wc.cell? ⟨gb173, 9, none⟩ = some (.int .u16 0) := (blk_cell BK173.out 9).trans rfl; have hfz89_0 := blk_frozen BK173.out 0; have hfz89_1 := blk_frozen BK173.out 1; have hfz89_2 := blk_frozen BK173.out 2; have hfz89_3 := blk_frozen BK173.out 3; have hfz89_4 := blk_frozen BK173.out 4; have hfz89_5 := blk_frozen BK173.out 5; have hfz89_6 := blk_frozen BK173.out 6; have hfz89_7 := blk_frozen BK173.out 7; have hfz89_8 := blk_frozen BK173.out 8; have hfz89_9 := blk_frozen BK173.out 9))
                      refine bodyPost_ret (results_ct rfl _ _ gb173 26 #[.string (⟨#[]⟩ : ByteArray), .int .u8 0, .int .i64 0, .bool false, .bool false, .bool false, .int .i64 0, .int .i64 0, .int .u8 0, .int .u16 0] (0, 0) _ rfl (by (with_reducible repeat (first | refine blk_drewN ?_ _ | refine blk_drew ?_ | refine blk_alloc ?_ _)); refine blk_put (cs := #[.string (⟨#[]⟩ : ByteArray), .int .u8 0, .int .i64 0, .bool false, .bool false, .bool false, .int .i64 0, .int .i64 0, .int .u8 0, .int .u16 0]) ?_ 9 _ rfl; (with_reducible repeat (first | refine blk_drewN ?_ _ | refine blk_drew ?_ | refine blk_alloc ?_ _)); refine blk_put (cs := #[.string (⟨#[]⟩ : ByteArray), .int .u8 0, .int .i64 0, .bool false, .bool false, .bool false, .int .i64 0, .int .i64 0, .int .u8 0, .int .u16 0]) ?_ 8 _ rfl; (with_reducible repeat (first | refine blk_drewN ?_ _ | refine blk_drew ?_ | refine blk_alloc ?_ _)); refine blk_put (cs := #[.string (⟨#[]⟩ : ByteArray), .int .u8 0, .int .i64 0, .bool false, .bool false, .bool false, .int .i64 0, .int .i64 0, .int .u8 0, .int .u16 0]) ?_ 7 _ rfl; (with_reducible repeat (first | refine blk_drewN ?_ _ | refine blk_drew ?_ | refine blk_alloc ?_ _)); refine blk_put (cs := #[.string (⟨#[]⟩ : ByteArray), .int .u8 0, .int .i64 0, .bool false, .bool false, .bool false, .int .i64 0, .int .i64 0, .int .u8 0, .int .u16 0]) ?_ 6 _ rfl; (with_reducible repeat (first | refine blk_drewN ?_ _ | refine blk_drew ?_ | refine blk_alloc ?_ _)); refine blk_put (cs := #[.string (⟨#[]⟩ : ByteArray), .int .u8 0, .int .i64 0, .bool false, .bool false, .bool false, .int .i64 0, .int .i64 0, .int .u8 0, .int .u16 0]) ?_ 5 _ rfl; (with_reducible repeat (first | refine blk_drewN ?_ _ | refine blk_drew ?_ | refine blk_alloc ?_ _)); refine blk_put (cs := #[.string (⟨#[]⟩ : ByteArray), .int .u8 0, .int .i64 0, .bool false, .bool false, .bool false, .int .i64 0, .int .i64 0, .int .u8 0, .int .u16 0]) ?_ 4 _ rfl; (with_reducible repeat (first | refine blk_drewN ?_ _ | refine blk_drew ?_ | refine blk_alloc ?_ _)); refine blk_put (cs := #[.string (⟨#[]⟩ : ByteArray), .int .u8 0, .int .i64 0, .bool false, .bool false, .bool false, .int .i64 0, .int .i64 0, .int .u8 0, .int .u16 0]) ?_ 3 _ rfl; (with_reducible repeat (first | refine blk_drewN ?_ _ | refine blk_drew ?_ | refine blk_alloc ?_ _)); refine blk_put (cs := #[.string (⟨#[]⟩ : ByteArray), .int .u8 0, .int .i64 0, .bool false, .bool false, .bool false, .int .i64 0, .int .i64 0, .int .u8 0, .int .u16 0]) ?_ 2 _ rfl; (with_reducible repeat (first | refine blk_drewN ?_ _ | refine blk_drew ?_ | refine blk_alloc ?_ _)); refine blk_put (cs := #[.string (⟨#[]⟩ : ByteArray), .int .u8 0, .int .i64 0, .bool false, .bool false, .bool false, .int .i64 0, .int .i64 0, .int .u8 0, .int .u16 0]) ?_ 1 _ rfl; (with_reducible repeat (first | refine blk_drewN ?_ _ | refine blk_drew ?_ | refine blk_alloc ?_ _)); refine blk_put (cs := #[.string (⟨#[]⟩ : ByteArray), .int .u8 0, .int .i64 0, .bool false, .bool false, .bool false, .int .i64 0, .int .i64 0, .int .u8 0, .int .u16 0]) ?_ 0 _ rfl; (with_reducible repeat (first | refine blk_drewN ?_ _ | refine blk_drew ?_ | refine blk_alloc ?_ _)); exact BK173.out) Try.underlying26 rfl (by kernel_rfl)) rfl ?_
                      exact ⟨by first | rfl | (simp [errW_none, errW_some] <;> rfl) | (simp [*, errW_none, errW_some] <;> rfl), by repeat (first | (with_reducible first | exact HB.out | apply below_alloc | apply pw_below_drewN | apply below_drew1 | refine below_set ?_ GE173.out | refine below_set ?_ GE186.out) | exact HB.out)⟩
                  · rw [if_neg c23] at H
                    exact absurd H (by simp)
          · rw [if_neg c9] at H
            exact absurd H (by simp)
        · rw [if_neg c8] at H
          exact absurd H (by simp)
      · replace c7 := Bool.eq_false_iff.mpr c7
        subst c7
        have H1 : (some ((⟨#[]⟩ : ByteArray), 0, 0, false, false, false, 0, 0, 0, 0, 4)) = some (r1, r2, r3, r4, r5, r6, r7, r8, r9, r10, r11) := by rw [if_neg (show ¬ (false = true) by decide)] at H; exact H
        clear H
        have H := H1
        clear H1
        simp only [Option.some.injEq, Prod.mk.injEq] at H
        obtain ⟨rfl, rfl, rfl, rfl, rfl, rfl, rfl, rfl, rfl, rfl, rfl⟩ := H
        go_enter Try.func11, Try.ntmps11
        go_wp2_with (first | ((with_reducible refine gate_dst (N := 2) rfl ?_); (try (refine gate_guard (by rfl) ?_; dsimp only)); refine box_event ?hg (N := 2) ?hd (cs := #[.string (⟨#[]⟩ : ByteArray), .int .u8 0, .int .i64 0, .bool false, .bool false, .bool false, .int .i64 0, .int .i64 0, .int .u8 0, .int .u16 0]) (t := 26) ?hr ?_; (case hd => rfl); (case hg => rfl); (case hr => first | (go_simp; done) | (go_simp; rfl)); intro gb173 hg w90 hbox hb; have n0_ := Aside0.mk (below_step (by repeat (first | (with_reducible first | exact HB.out | apply below_alloc | apply pw_below_drewN | apply below_drew1) | exact HB.out)) hb); have n1_ := Aside0.mk (hbox); have n2_ := Aside0.mk ((by rw [hg]; exact (below_size (by repeat (first | (with_reducible first | exact HB.out | apply below_alloc | apply pw_below_drewN | apply below_drew1) | exact HB.out))) : w.heap.size ≤ gb173)); have n3_ := Aside0.mk ((by rw [hg]; exact (below_size (by repeat (first | (with_reducible first | exact HB.out | apply below_alloc | apply pw_below_drewN | apply below_drew1) | exact HB.out))) : w.heap.size ≤ gb173)); clear HB; have HB := n0_; have BK173 := n1_; have GW173 := n2_; have GE173 := n3_; clear n0_ n1_ n2_ n3_; clear hb hbox hg; have p174 : 0 ≤ (327 : Int) := (by omega); have q174 : 327 < (l0.length : Int) := of_decide_eq_true (by first | (with_reducible assumption) | assumption); obtain ⟨ad174, e174, hx174_0⟩ := Kd.at_int HR0.out 327 p174 q174; cases e174; (try simp only [show (327 : Int).toNat = 327 from rfl, Nat.reduceMul, Nat.reduceEqDiff, Go.Addr.add, ↓reduceIte] at hx174_0); have qi174 : (327 < l0.length) = True := eq_true (by omega); (try rw [show ((327 : Int)).toNat = 327 from rfl] at hx174_0); replace hx174_0 := (HB.out.cell (World.block_lt_of_cell? w _ hx174_0)).trans hx174_0; replace p174 := eq_true p174; replace q174 := eq_true q174) | ((with_reducible refine gate_callee (f := 25) rfl ?_); refine goesL_ (some 20) rfl rfl Try.func25 (by kernel_rfl) rfl #[.int .u8 (rd l0 327)] rfl (by (try simp only [List.map_toArray, List.map_cons, List.map_nil]); first | done | rfl | (simp only [List.length_drop, List.length_take]; rfl)) ?_; (with_reducible refine (whirligigref07_Kinds.calls k (rd l0 327) t175 t176 t177 t178 t179 t180 t181 t182 t183 t184 false _ A6.out).mono ?_); rintro e w91 ⟨rfl, hb⟩; refine ⟨_, rfl, ?_⟩; have n0_ := Aside0.mk (blk_below (g := gb173) (o := .cells #[.string (⟨#[]⟩ : ByteArray), .int .u8 0, .int .i64 0, .bool false, .bool false, .bool false, .int .i64 0, .int .i64 0, .int .u8 0, .int .u16 0] 26 (0, 0)) (by (with_reducible repeat (first | refine blk_drewN ?_ _ | refine blk_drew ?_ | refine blk_alloc ?_ _)); exact BK173.out) hb); have n1_ := Aside0.mk (below_step (by repeat (first | (with_reducible first | exact HB.out | apply below_alloc | apply pw_below_drewN | apply below_drew1 | refine below_set ?_ GE173.out) | exact HB.out)) hb); clear BK173; clear HB; have BK173 := n0_; have HB := n1_; clear n0_ n1_; (try clear hb); (try clear hb2); (try clear hk); (try clear hi)) | ((with_reducible refine gate_dst (N := 4) rfl ?_); (try (refine gate_guard (by rfl) ?_; dsimp only)); refine box_event ?hg (N := 4) ?hd (cs := #[.string (⟨#[]⟩ : ByteArray), .int .u8 0, .int .i64 0, .bool false, .bool false, .bool false, .int .i64 0, .int .i64 0, .int .u8 0, .int .u16 0]) (t := 26) ?hr ?_; (case hd => rfl); (case hg => rfl); (case hr => first | (go_simp; done) | (go_simp; rfl)); intro gb186 hg w92 hbox hb; have n0_ := Aside0.mk (blk_below (g := gb173) (o := .cells #[.string (⟨#[]⟩ : ByteArray), .int .u8 0, .int .i64 0, .bool false, .bool false, .bool false, .int .i64 0, .int .i64 0, .int .u8 0, .int .u16 0] 26 (0, 0)) (by (with_reducible repeat (first | refine blk_drewN ?_ _ | refine blk_drew ?_ | refine blk_alloc ?_ _)); exact BK173.out) hb); have n1_ := Aside0.mk (below_step (by repeat (first | (with_reducible first | exact HB.out | apply below_alloc | apply pw_below_drewN | apply below_drew1 | refine below_set ?_ GE173.out) | exact HB.out)) hb); have n2_ := Aside0.mk (hbox); have n3_ := Aside0.mk ((by rw [hg]; exact (below_size (by repeat (first | (with_reducible first | exact HB.out | apply below_alloc | apply pw_below_drewN | apply below_drew1 | refine below_set ?_ GE173.out) | exact HB.out))) : w.heap.size ≤ gb186)); have n4_ := Aside0.mk ((by rw [hg]; exact (below_size (by repeat (first | (with_reducible first | exact HB.out | apply below_alloc | apply pw_below_drewN | apply below_drew1 | refine below_set ?_ GE173.out) | exact HB.out))) : w.heap.size ≤ gb186)); have n5_ := Aside0.mk ((by rw [hg]; exact Nat.ne_of_lt (blk_lt (g := gb173) (o := .cells #[.string (⟨#[]⟩ : ByteArray), .int .u8 0, .int .i64 0, .bool false, .bool false, .bool false, .int .i64 0, .int .i64 0, .int .u8 0, .int .u16 0] 26 (0, 0)) (by (with_reducible repeat (first | refine blk_drewN ?_ _ | refine blk_drew ?_ | refine blk_alloc ?_ _)); exact BK173.out)) : gb173 ≠ gb186)); have n6_ := Aside0.mk ((by rw [hg]; exact Nat.ne_of_gt (blk_lt (g := gb173) (o := .cells #[.string (⟨#[]⟩ : ByteArray), .int .u8 0, .int .i64 0, .bool false, .bool false, .bool false, .int .i64 0, .int .i64 0, .int .u8 0, .int .u16 0] 26 (0, 0)) (by (with_reducible repeat (first | refine blk_drewN ?_ _ | refine blk_drew ?_ | refine blk_alloc ?_ _)); exact BK173.out)) : gb186 ≠ gb173)); clear BK173; clear HB; have BK173 := n0_; have HB := n1_; have BK186 := n2_; have GW186 := n3_; have GE186 := n4_; have NB173_186 := n5_; have NB186_173 := n6_; clear n0_ n1_ n2_ n3_ n4_ n5_ n6_; clear hb hbox hg; have hnb93 := NB186_173.out; have hnc93 := NB173_186.out; have hcz94_0 : w92.cell? ⟨gb186, 0, none⟩ = some (.string (⟨#[]⟩ : ByteArray)) := (blk_cell BK186.out 0).trans rfl; have hcz94_1 : w92.cell? ⟨gb186, 1, none⟩ = some (.int .u8 0) := (blk_cell BK186.out 1).trans rfl; have hcz94_2 : w92.cell? ⟨gb186, 2, none⟩ = some (.int .i64 0) := (blk_cell BK186.out 2).trans rfl; have hcz94_3 : w92.cell? ⟨gb186, 3, none⟩ = some (.bool false) := (blk_cell BK186.out 3).trans rfl; have hcz94_4 : w92.cell? ⟨gb186, 4, none⟩ = some (.bool false) := (blk_cell BK186.out 4).trans rfl; have hcz94_5 : w92.cell? ⟨gb186, 5, none⟩ = some (.bool false) := (blk_cell BK186.out 5).trans rfl; have hcz94_6 : w92.cell? ⟨gb186, 6, none⟩ = some (.int .i64 0) := (blk_cell BK186.out 6).trans rfl; have hcz94_7 : w92.cell? ⟨gb186, 7, none⟩ = some (.int .i64 0) := (blk_cell BK186.out 7).trans rfl; have hcz94_8 : w92.cell? ⟨gb186, 8, none⟩ = some (.int .u8 0) := (blk_cell BK186.out 8).trans rfl; have hcz94_9 : w92.cell? ⟨gb186, 9, none⟩ = some (.int .u16 0) := (blk_cell BK186.out 9).trans rfl; have hfz94_0 := blk_frozen BK186.out 0; have hfz94_1 := blk_frozen BK186.out 1; have hfz94_2 := blk_frozen BK186.out 2; have hfz94_3 := blk_frozen BK186.out 3; have hfz94_4 := blk_frozen BK186.out 4; have hfz94_5 := blk_frozen BK186.out 5; have hfz94_6 := blk_frozen BK186.out 6; have hfz94_7 := blk_frozen BK186.out 7; have hfz94_8 := blk_frozen BK186.out 8; have hfz94_9 := blk_frozen BK186.out 9; have hcz95_0 : w92.cell? ⟨gb173, 0, none⟩ = some (.string (⟨#[]⟩ : ByteArray)) := (blk_cell BK173.out 0).trans rfl; have hcz95_1 : w92.cell? ⟨gb173, 1, none⟩ = some (.int .u8 0) := (blk_cell BK173.out 1).trans rfl; have hcz95_2 : w92.cell? ⟨gb173, 2, none⟩ = some (.int .i64 0) := (blk_cell BK173.out 2).trans rfl; have hcz95_3 : w92.cell? ⟨gb173, 3, none⟩ = some (.bool false) := (blk_cell BK173.out 3).trans rfl; have hcz95_4 : w92.cell? ⟨gb173, 4, none⟩ = some (.bool false) := (blk_cell BK173.out 4).trans rfl; have hcz95_5 : w92.cell? ⟨gb173, 5, none⟩ = some (.bool false) := (blk_cell BK173.out 5).trans rfl; have hcz95_6 : w92.cell? ⟨gb173, 6, none⟩ = some (.int .i64 0) := (blk_cell BK173.out 6).trans rfl; have hcz95_7 : w92.cell? ⟨gb173, 7, none⟩ = some (.int .i64 0) := (blk_cell BK173.out 7).trans rfl; have hcz95_8 : w92.cell? ⟨gb173, 8, none⟩ = some (.int .u8 0) := (blk_cell BK173.out 8).trans rfl; have hcz95_9 : w92.cell? ⟨gb173, 9, none⟩ = some (.int .u16 0) := (blk_cell BK173.out 9).trans rfl; have hfz95_0 := blk_frozen BK173.out 0; have hfz95_1 := blk_frozen BK173.out 1; have hfz95_2 := blk_frozen BK173.out 2; have hfz95_3 := blk_frozen BK173.out 3; have hfz95_4 := blk_frozen BK173.out 4; have hfz95_5 := blk_frozen BK173.out 5; have hfz95_6 := blk_frozen BK173.out 6; have hfz95_7 := blk_frozen BK173.out 7; have hfz95_8 := blk_frozen BK173.out 8; have hfz95_9 := blk_frozen BK173.out 9))
        refine bodyPost_ret (results_ct rfl _ _ gb173 26 #[.string (⟨#[]⟩ : ByteArray), .int .u8 0, .int .i64 0, .bool false, .bool false, .bool false, .int .i64 0, .int .i64 0, .int .u8 0, .int .u16 0] (0, 0) _ rfl (by (with_reducible repeat (first | refine blk_drewN ?_ _ | refine blk_drew ?_ | refine blk_alloc ?_ _)); refine blk_put (cs := #[.string (⟨#[]⟩ : ByteArray), .int .u8 0, .int .i64 0, .bool false, .bool false, .bool false, .int .i64 0, .int .i64 0, .int .u8 0, .int .u16 0]) ?_ 9 _ rfl; (with_reducible repeat (first | refine blk_drewN ?_ _ | refine blk_drew ?_ | refine blk_alloc ?_ _)); refine blk_put (cs := #[.string (⟨#[]⟩ : ByteArray), .int .u8 0, .int .i64 0, .bool false, .bool false, .bool false, .int .i64 0, .int .i64 0, .int .u8 0, .int .u16 0]) ?_ 8 _ rfl; (with_reducible repeat (first | refine blk_drewN ?_ _ | refine blk_drew ?_ | refine blk_alloc ?_ _)); refine blk_put (cs := #[.string (⟨#[]⟩ : ByteArray), .int .u8 0, .int .i64 0, .bool false, .bool false, .bool false, .int .i64 0, .int .i64 0, .int .u8 0, .int .u16 0]) ?_ 7 _ rfl; (with_reducible repeat (first | refine blk_drewN ?_ _ | refine blk_drew ?_ | refine blk_alloc ?_ _)); refine blk_put (cs := #[.string (⟨#[]⟩ : ByteArray), .int .u8 0, .int .i64 0, .bool false, .bool false, .bool false, .int .i64 0, .int .i64 0, .int .u8 0, .int .u16 0]) ?_ 6 _ rfl; (with_reducible repeat (first | refine blk_drewN ?_ _ | refine blk_drew ?_ | refine blk_alloc ?_ _)); refine blk_put (cs := #[.string (⟨#[]⟩ : ByteArray), .int .u8 0, .int .i64 0, .bool false, .bool false, .bool false, .int .i64 0, .int .i64 0, .int .u8 0, .int .u16 0]) ?_ 5 _ rfl; (with_reducible repeat (first | refine blk_drewN ?_ _ | refine blk_drew ?_ | refine blk_alloc ?_ _)); refine blk_put (cs := #[.string (⟨#[]⟩ : ByteArray), .int .u8 0, .int .i64 0, .bool false, .bool false, .bool false, .int .i64 0, .int .i64 0, .int .u8 0, .int .u16 0]) ?_ 4 _ rfl; (with_reducible repeat (first | refine blk_drewN ?_ _ | refine blk_drew ?_ | refine blk_alloc ?_ _)); refine blk_put (cs := #[.string (⟨#[]⟩ : ByteArray), .int .u8 0, .int .i64 0, .bool false, .bool false, .bool false, .int .i64 0, .int .i64 0, .int .u8 0, .int .u16 0]) ?_ 3 _ rfl; (with_reducible repeat (first | refine blk_drewN ?_ _ | refine blk_drew ?_ | refine blk_alloc ?_ _)); refine blk_put (cs := #[.string (⟨#[]⟩ : ByteArray), .int .u8 0, .int .i64 0, .bool false, .bool false, .bool false, .int .i64 0, .int .i64 0, .int .u8 0, .int .u16 0]) ?_ 2 _ rfl; (with_reducible repeat (first | refine blk_drewN ?_ _ | refine blk_drew ?_ | refine blk_alloc ?_ _)); refine blk_put (cs := #[.string (⟨#[]⟩ : ByteArray), .int .u8 0, .int .i64 0, .bool false, .bool false, .bool false, .int .i64 0, .int .i64 0, .int .u8 0, .int .u16 0]) ?_ 1 _ rfl; (with_reducible repeat (first | refine blk_drewN ?_ _ | refine blk_drew ?_ | refine blk_alloc ?_ _)); refine blk_put (cs := #[.string (⟨#[]⟩ : ByteArray), .int .u8 0, .int .i64 0, .bool false, .bool false, .bool false, .int .i64 0, .int .i64 0, .int .u8 0, .int .u16 0]) ?_ 0 _ rfl; (with_reducible repeat (first | refine blk_drewN ?_ _ | refine blk_drew ?_ | refine blk_alloc ?_ _)); refine blk_far ?_ NB173_186.out _; (with_reducible repeat (first | refine blk_drewN ?_ _ | refine blk_drew ?_ | refine blk_alloc ?_ _)); refine blk_far ?_ NB173_186.out _; (with_reducible repeat (first | refine blk_drewN ?_ _ | refine blk_drew ?_ | refine blk_alloc ?_ _)); refine blk_far ?_ NB173_186.out _; (with_reducible repeat (first | refine blk_drewN ?_ _ | refine blk_drew ?_ | refine blk_alloc ?_ _)); refine blk_far ?_ NB173_186.out _; (with_reducible repeat (first | refine blk_drewN ?_ _ | refine blk_drew ?_ | refine blk_alloc ?_ _)); refine blk_far ?_ NB173_186.out _; (with_reducible repeat (first | refine blk_drewN ?_ _ | refine blk_drew ?_ | refine blk_alloc ?_ _)); refine blk_far ?_ NB173_186.out _; (with_reducible repeat (first | refine blk_drewN ?_ _ | refine blk_drew ?_ | refine blk_alloc ?_ _)); refine blk_far ?_ NB173_186.out _; (with_reducible repeat (first | refine blk_drewN ?_ _ | refine blk_drew ?_ | refine blk_alloc ?_ _)); refine blk_far ?_ NB173_186.out _; (with_reducible repeat (first | refine blk_drewN ?_ _ | refine blk_drew ?_ | refine blk_alloc ?_ _)); refine blk_far ?_ NB173_186.out _; (with_reducible repeat (first | refine blk_drewN ?_ _ | refine blk_drew ?_ | refine blk_alloc ?_ _)); refine blk_far ?_ NB173_186.out _; (with_reducible repeat (first | refine blk_drewN ?_ _ | refine blk_drew ?_ | refine blk_alloc ?_ _)); exact BK173.out) Try.underlying26 rfl (by kernel_rfl)) rfl ?_
        exact ⟨by first | rfl | (simp [errW_none, errW_some] <;> rfl) | (simp [*, errW_none, errW_some] <;> rfl), by repeat (first | (with_reducible first | exact HB.out | apply below_alloc | apply pw_below_drewN | apply below_drew1 | refine below_set ?_ GE173.out | refine below_set ?_ GE186.out) | exact HB.out)⟩
    · rw [if_neg c5] at H
      exact absurd H (by simp)

end Go.Proofs.Ytmlpijlnchnabaa.G
