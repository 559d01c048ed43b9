/- Written by a program of this session, after the kit's print: Go functions as Lean functions, each with the proof that the Go text comes to it. -/
import Derived.Test.YtkogdocpldfmnaaG0
import Derived.Test.YtkogdocpldfmnaaG1
import Derived.Test.YtkogdocpldfmnaaG2
import Derived.Test.YtkogdocpldfmnaaG5
import Derived.Test.YtkogdocpldfmnaaHBank
import Derived.Test.YtkogdocpldfmnaaHMWrite
namespace Go.Proofs.Ytkogdocpldfmnaa.G
open Go.RowKit Go.Proofs.YtkogdocpldfmnaaW.PrintWords Go.Proofs.YtkogdocpldfmnaaW.PrintLast Go.Proofs.YtkogdocpldfmnaaW.PrintMore
attribute [local go_sem] max2_int min2_int max_two min_two max_three min_three max_four min_four   -- for this text's walks alone
set_option linter.unusedVariables false
set_option linter.unusedSimpArgs false

open Go.Proofs.Ytkogdocpldfmnaa.Hand
attribute [local go_sem high] eqA24
/-! ### whirligiglaw08_MapperKeeps: function 7 -/
mutual
def whirligiglaw08_MapperKeeps.l0 : Nat → Int → List (S40) → Bool → Int → Int → Bool → Int → Int → Int → Bool → Option (Bool)
  | 0, _, _, _, _, _, _, _, _, _, _ => none
  | k + 1, x0, x1, x5, x8, x203000, x203001, x203002, x203003, x203004, x203005 => if x8 < (x1.length : Int) then (if 0 ≤ x8 then ((mapper_Write.f x203000 x203001 x203002 x203003 x203004 x203005 ((rd_T40 x1 x8).f0) ((rd_T40 x1 x8).f1)).bind fun bt205 => (if x0 = 1 then (whirligiglaw08_MapperKeeps.j1 k x0 x1 x5 x8 1 x0 (x0 == 1) bt205.1 bt205.2.1 bt205.2.2.1 bt205.2.2.2.1 bt205.2.2.2.2.1 bt205.2.2.2.2.2) else (whirligiglaw08_MapperKeeps.j1 k x0 x1 x5 x8 1 x0 (x0 == 3) bt205.1 bt205.2.1 bt205.2.2.1 bt205.2.2.2.1 bt205.2.2.2.2.1 bt205.2.2.2.2.2))) else (none)) else (some x5)
def whirligiglaw08_MapperKeeps.j2 : Nat → Int → List (S40) → Bool → Int → Int → Int → Bool → Int → Int → Int → Bool → Option (Bool)
  | 0, _, _, _, _, _, _, _, _, _, _, _ => none
  | k + 1, x0, x1, x5, x8, x9, x203000, x203001, x203002, x203003, x203004, x203005 => if x203000 = x0 then (if x203003 > 3 then (some false) else (if x203004 > 15 then (some false) else (if x0 = 5 then (if x0 = 0 then (if (!(x203000 == 0) || (x203001 || (!(x203002 == 0) || (!(x203003 == 0) || (!(x203004 == 0) || (x203005)))))) = true then (some false) else ((mapper_Bank.f x203000 x203001 x203002 x203003 x203004 x203005 16384).bind fun t211 => (if t211 > x9 then (some false) else ((mapper_Bank.f x203000 x203001 x203002 x203003 x203004 x203005 0).bind fun t212 => (if t212 > 96 then (some false) else (whirligiglaw08_MapperKeeps.l0 k x0 x1 x5 (wrap64 (x8 + 1)) x203000 x203001 x203002 x203003 x203004 x203005)))))) else ((mapper_Bank.f x203000 x203001 x203002 x203003 x203004 x203005 16384).bind fun t213 => (if t213 > x9 then (some false) else ((mapper_Bank.f x203000 x203001 x203002 x203003 x203004 x203005 0).bind fun t214 => (if t214 > 96 then (some false) else (whirligiglaw08_MapperKeeps.l0 k x0 x1 x5 (wrap64 (x8 + 1)) x203000 x203001 x203002 x203003 x203004 x203005)))))) else (if x203002 > 127 then (some false) else (if x0 = 0 then (if (!(x203000 == 0) || (x203001 || (!(x203002 == 0) || (!(x203003 == 0) || (!(x203004 == 0) || (x203005)))))) = true then (some false) else ((mapper_Bank.f x203000 x203001 x203002 x203003 x203004 x203005 16384).bind fun t215 => (if t215 > x9 then (some false) else ((mapper_Bank.f x203000 x203001 x203002 x203003 x203004 x203005 0).bind fun t216 => (if t216 > 96 then (some false) else ((mapper_Bank.f x203000 x203001 x203002 x203003 x203004 x203005 32767).bind fun t217 => (if t217 = 0 then (some false) else (whirligiglaw08_MapperKeeps.l0 k x0 x1 x5 (wrap64 (x8 + 1)) x203000 x203001 x203002 x203003 x203004 x203005)))))))) else ((mapper_Bank.f x203000 x203001 x203002 x203003 x203004 x203005 16384).bind fun t218 => (if t218 > x9 then (some false) else ((mapper_Bank.f x203000 x203001 x203002 x203003 x203004 x203005 0).bind fun t219 => (if t219 > 96 then (some false) else ((mapper_Bank.f x203000 x203001 x203002 x203003 x203004 x203005 32767).bind fun t220 => (if t220 = 0 then (some false) else (whirligiglaw08_MapperKeeps.l0 k x0 x1 x5 (wrap64 (x8 + 1)) x203000 x203001 x203002 x203003 x203004 x203005)))))))))))) else (some false)
def whirligiglaw08_MapperKeeps.j1 : Nat → Int → List (S40) → Bool → Int → Int → Int → Bool → Int → Bool → Int → Int → Int → Bool → Option (Bool)
  | 0, _, _, _, _, _, _, _, _, _, _, _, _, _ => none
  | k + 1, x0, x1, x5, x8, x9, x42, x43, x203000, x203001, x203002, x203003, x203004, x203005 => if x43 = true then (whirligiglaw08_MapperKeeps.j2 k x0 x1 x5 x8 127 x203000 x203001 x203002 x203003 x203004 x203005) else (if x42 = 5 then (whirligiglaw08_MapperKeeps.j2 k x0 x1 x5 x8 511 x203000 x203001 x203002 x203003 x203004 x203005) else (whirligiglaw08_MapperKeeps.j2 k x0 x1 x5 x8 x9 x203000 x203001 x203002 x203003 x203004 x203005))
end
def whirligiglaw08_MapperKeeps.f (k : Nat) (a0 : Int) (l1 : List (S40)) : Option (Bool) := (whirligiglaw08_shown.f).bind fun t194 => ((mapper_New.f a0).bind fun bt195 => (if bt195.2.2.2.2.2.2 = 0 then (whirligiglaw08_MapperKeeps.l0 k a0 l1 t194 0 bt195.1 bt195.2.1 bt195.2.2.1 bt195.2.2.2.1 bt195.2.2.2.2.1 bt195.2.2.2.2.2.1) else (if t194 = true then (some (bt195.1 == 0 && (!bt195.2.1 && (bt195.2.2.1 == 0 && (bt195.2.2.2.1 == 0 && (bt195.2.2.2.2.1 == 0 && (!bt195.2.2.2.2.2.1))))))) else (some false))))
theorem whirligiglaw08_MapperKeeps.mono_l : ∀ k, (∀ y0 y1 y2 y3 y4 y5 y6 y7 y8 y9, LeO (whirligiglaw08_MapperKeeps.l0 k y0 y1 y2 y3 y4 y5 y6 y7 y8 y9) (whirligiglaw08_MapperKeeps.l0 (k + 1) y0 y1 y2 y3 y4 y5 y6 y7 y8 y9)) ∧ (∀ y0 y1 y2 y3 y4 y5 y6 y7 y8 y9 y10, LeO (whirligiglaw08_MapperKeeps.j2 k y0 y1 y2 y3 y4 y5 y6 y7 y8 y9 y10) (whirligiglaw08_MapperKeeps.j2 (k + 1) y0 y1 y2 y3 y4 y5 y6 y7 y8 y9 y10)) ∧ (∀ y0 y1 y2 y3 y4 y5 y6 y7 y8 y9 y10 y11 y12, LeO (whirligiglaw08_MapperKeeps.j1 k y0 y1 y2 y3 y4 y5 y6 y7 y8 y9 y10 y11 y12) (whirligiglaw08_MapperKeeps.j1 (k + 1) y0 y1 y2 y3 y4 y5 y6 y7 y8 y9 y10 y11 y12))
  | 0 => ⟨fun _ _ _ _ _ _ _ _ _ _ r h => by simp [whirligiglaw08_MapperKeeps.l0] at h, fun _ _ _ _ _ _ _ _ _ _ _ r h => by simp [whirligiglaw08_MapperKeeps.j2] at h, fun _ _ _ _ _ _ _ _ _ _ _ _ _ r h => by simp [whirligiglaw08_MapperKeeps.j1] at h⟩
  | k + 1 => by
    obtain ⟨ih0, ih1, ih2⟩ := whirligiglaw08_MapperKeeps.mono_l k
    refine ⟨?_, ?_, ?_⟩
    · intro y0 y1 y2 y3 y4 y5 y6 y7 y8 y9
      unfold whirligiglaw08_MapperKeeps.l0
      repeat' first
      | (with_reducible exact ih0 _ _ _ _ _ _ _ _ _ _)
      | (with_reducible exact ih1 _ _ _ _ _ _ _ _ _ _ _)
      | (with_reducible exact ih2 _ _ _ _ _ _ _ _ _ _ _ _ _)
      | (with_reducible exact LeO.refl _)
      | (with_reducible exact LeO.none _)
      | (with_reducible refine LeO.ite ?_ ?_)
      | (with_reducible refine LeO.bind ?_ (fun _ => ?_))
      | exact ih0 _ _ _ _ _ _ _ _ _ _
      | exact ih1 _ _ _ _ _ _ _ _ _ _ _
      | exact ih2 _ _ _ _ _ _ _ _ _ _ _ _ _
      | exact LeO.none _
      | refine LeO.ite ?_ ?_
      | refine LeO.bind ?_ (fun _ => ?_)
    · intro y0 y1 y2 y3 y4 y5 y6 y7 y8 y9 y10
      unfold whirligiglaw08_MapperKeeps.j2
      repeat' first
      | (with_reducible exact ih0 _ _ _ _ _ _ _ _ _ _)
      | (with_reducible exact ih1 _ _ _ _ _ _ _ _ _ _ _)
      | (with_reducible exact ih2 _ _ _ _ _ _ _ _ _ _ _ _ _)
      | (with_reducible exact LeO.refl _)
      | (with_reducible exact LeO.none _)
      | (with_reducible refine LeO.ite ?_ ?_)
      | (with_reducible refine LeO.bind ?_ (fun _ => ?_))
      | exact ih0 _ _ _ _ _ _ _ _ _ _
      | exact ih1 _ _ _ _ _ _ _ _ _ _ _
      | exact ih2 _ _ _ _ _ _ _ _ _ _ _ _ _
      | exact LeO.none _
      | refine LeO.ite ?_ ?_
      | refine LeO.bind ?_ (fun _ => ?_)
    · intro y0 y1 y2 y3 y4 y5 y6 y7 y8 y9 y10 y11 y12
      unfold whirligiglaw08_MapperKeeps.j1
      repeat' first
      | (with_reducible exact ih0 _ _ _ _ _ _ _ _ _ _)
      | (with_reducible exact ih1 _ _ _ _ _ _ _ _ _ _ _)
      | (with_reducible exact ih2 _ _ _ _ _ _ _ _ _ _ _ _ _)
      | (with_reducible exact LeO.refl _)
      | (with_reducible exact LeO.none _)
      | (with_reducible refine LeO.ite ?_ ?_)
      | (with_reducible refine LeO.bind ?_ (fun _ => ?_))
      | exact ih0 _ _ _ _ _ _ _ _ _ _
      | exact ih1 _ _ _ _ _ _ _ _ _ _ _
      | exact ih2 _ _ _ _ _ _ _ _ _ _ _ _ _
      | exact LeO.none _
      | refine LeO.ite ?_ ?_
      | refine LeO.bind ?_ (fun _ => ?_)
theorem whirligiglaw08_MapperKeeps.mono : ∀ a0 a1 k, LeO (whirligiglaw08_MapperKeeps.f k a0 a1) (whirligiglaw08_MapperKeeps.f (k + 1) a0 a1) := by
  intro a0 a1 k
  obtain ⟨ih0, ih1, ih2⟩ := whirligiglaw08_MapperKeeps.mono_l k
  unfold whirligiglaw08_MapperKeeps.f
  repeat' first
      | (with_reducible exact ih0 _ _ _ _ _ _ _ _ _ _)
      | (with_reducible exact ih1 _ _ _ _ _ _ _ _ _ _ _)
      | (with_reducible exact ih2 _ _ _ _ _ _ _ _ _ _ _ _ _)
      | (with_reducible exact LeO.refl _)
      | (with_reducible exact LeO.none _)
      | (with_reducible refine LeO.ite ?_ ?_)
      | (with_reducible refine LeO.bind ?_ (fun _ => ?_))
      | exact ih0 _ _ _ _ _ _ _ _ _ _
      | exact ih1 _ _ _ _ _ _ _ _ _ _ _
      | exact ih2 _ _ _ _ _ _ _ _ _ _ _ _ _
      | exact LeO.none _
      | refine LeO.ite ?_ ?_
      | refine LeO.bind ?_ (fun _ => ?_)
def whirligiglaw08_MapperKeeps.T8 : Bool × List (List Nat × List Nat) := (true, [([], []), ([], []), ([], []), ([1, 2], [1, 2]), ([3], [3]), ([4], [4]), ([], []), ([], []), ([6, 7], [6, 7]), ([8], [8]), ([9], [9]), ([0, 5, 10], [0, 5, 10]), ([11, 11, 0, 1, 2, 3, 4, 5, 6, 7, 8, 9, 10, 11], [11])])
def whirligiglaw08_MapperKeeps.B8 : List Nat := [0, 0, 0, 6, 14, 30, 0, 0, 192, 448, 960, 2047, 4095]
theorem whirligiglaw08_MapperKeeps.tab8 : rtab .any (opsOf Try.f7 8) = whirligiglaw08_MapperKeeps.T8 := by kernel_rfl
theorem whirligiglaw08_MapperKeeps.bits8 : waitsOk whirligiglaw08_MapperKeeps.T8.2 whirligiglaw08_MapperKeeps.B8 = true := by kernel_rfl
set_option maxHeartbeats 8000000 in
set_option maxRecDepth 100000 in
theorem whirligiglaw08_MapperKeeps.calls (k : Nat) (a0 : Int) (A1 : Option Addr) (c1 : Nat) (l1 : List (S40)) (r : Bool) (w : World) (hr1 : Kd.C k40 w A1 l1.length l1) (hc1 : l1.length ≤ c1) (h : whirligiglaw08_MapperKeeps.f k a0 l1 = some r) :
    Calls Try.prog 7 #[.int .i64 a0, .slice A1 l1.length c1] w fun e w' => e = .returned (.bool r) ∧ Below w.heap.size w w' := by
  have hu24 := Try.underlying24
  have HR1 := Aside0.mk hr1
  have HC1 := Aside0.mk hc1
  clear hr1 hc1
  have HB := Aside0.mk (Below.refl w.heap.size w)
  have H : ((whirligiglaw08_shown.f).bind fun t194 => ((mapper_New.f a0).bind fun bt195 => (if bt195.2.2.2.2.2.2 = 0 then (whirligiglaw08_MapperKeeps.l0 k a0 l1 t194 0 bt195.1 bt195.2.1 bt195.2.2.1 bt195.2.2.2.1 bt195.2.2.2.2.1 bt195.2.2.2.2.2.1) else (if t194 = true then (some (bt195.1 == 0 && (!bt195.2.1 && (bt195.2.2.1 == 0 && (bt195.2.2.2.1 == 0 && (bt195.2.2.2.2.1 == 0 && (!bt195.2.2.2.2.2.1))))))) else (some false))))) = some r := h
  clear h
  replace H := Option.bind_eq_some_iff.mp H
  obtain ⟨t194, A30, H⟩ := H
  replace H : ((mapper_New.f a0).bind fun bt195 => (if bt195.2.2.2.2.2.2 = 0 then (whirligiglaw08_MapperKeeps.l0 k a0 l1 t194 0 bt195.1 bt195.2.1 bt195.2.2.1 bt195.2.2.2.1 bt195.2.2.2.2.1 bt195.2.2.2.2.2.1) else (if t194 = true then (some (bt195.1 == 0 && (!bt195.2.1 && (bt195.2.2.1 == 0 && (bt195.2.2.2.1 == 0 && (bt195.2.2.2.2.1 == 0 && (!bt195.2.2.2.2.2.1))))))) else (some false)))) = some r := H
  have A3 := Aside0.mk A30
  clear A30
  replace H := Option.bind_eq_some_iff.mp H
  obtain ⟨⟨t195, t196, t197, t198, t199, t200, t201⟩, A40, H⟩ := H
  replace H : (if t201 = 0 then (whirligiglaw08_MapperKeeps.l0 k a0 l1 t194 0 t195 t196 t197 t198 t199 t200) else (if t194 = true then (some (t195 == 0 && (!t196 && (t197 == 0 && (t198 == 0 && (t199 == 0 && (!t200))))))) else (some false))) = some r := H
  have A4 := Aside0.mk A40
  clear A40
  by_cases c5 : t201 = 0
  · rw [if_pos c5] at H
    have c5b0 : (t201 == 0) = true := beq_iff_eq.mpr c5
    have c5b1 : (t201 != 0) = false := bne_eq_false_iff_eq.mpr c5
    clear c5
    have H' := Aside0.mk H
    clear H
    go_enter Try.func7, Try.ntmps7
    go_wp2_with (first | ((with_reducible refine gate_callee (f := 10) rfl ?_); refine goesL_ (some 10) rfl rfl Try.func10 (by kernel_rfl) rfl #[] rfl (by (try simp only [List.map_toArray, List.map_cons, List.map_nil]); first | done | rfl | (simp only [List.length_drop, List.length_take]; rfl)) ?_; (with_reducible refine (whirligiglaw08_shown.calls  t194 _ A3.out).mono ?_); rintro e w6 ⟨rfl, hb⟩; refine ⟨_, rfl, ?_⟩; have n0_ := Aside0.mk (below_step (by repeat (first | (with_reducible first | exact HB.out | apply below_alloc | apply pw_below_drewN | apply below_drew1) | exact HB.out)) hb); clear HB; have HB := n0_; clear n0_; (try clear hb); (try clear hb2); (try clear hk); (try clear hi)) | ((with_reducible refine gate_callee (f := 11) rfl ?_); refine goesL_ (some 13) rfl rfl Try.func11 (by kernel_rfl) rfl #[.int .i64 a0] rfl (by (try simp only [List.map_toArray, List.map_cons, List.map_nil]); first | done | rfl | (simp only [List.length_drop, List.length_take]; rfl)) ?_; (with_reducible refine (mapper_New.calls a0 t195 t196 t197 t198 t199 t200 t201 _ A4.out).mono ?_); rintro e w7 ⟨rfl, hb⟩; refine ⟨_, rfl, ?_⟩; have n0_ := Aside0.mk (below_step (by repeat (first | (with_reducible first | exact HB.out | apply below_alloc | apply pw_below_drewN | apply below_drew1) | exact HB.out)) hb); clear HB; have HB := n0_; clear n0_; (try clear hb); (try clear hb2); (try clear hk); (try clear hi)) | ((with_reducible refine gate_dst (N := 6) rfl ?_); refine box_event ?hg (N := 6) ?hd (cs := #[.int .i64 0, .bool false, .int .u8 0, .int .u8 0, .int .u8 0, .bool false]) (t := 24) ?hr ?_; (case hd => rfl); (case hg => rfl); (case hr => first | (go_simp; done) | (go_simp; rfl)); intro gb202 hg w8 hbox hb; have n0_ := Aside0.mk (below_step (by repeat (first | (with_reducible first | exact HB.out | apply below_alloc | apply pw_below_drewN | apply below_drew1) | exact HB.out)) hb); have n1_ := Aside0.mk (hbox); have n2_ := Aside0.mk ((by rw [hg]; exact (below_size (by repeat (first | (with_reducible first | exact HB.out | apply below_alloc | apply pw_below_drewN | apply below_drew1) | exact HB.out))) : w.heap.size ≤ gb202)); have n3_ := Aside0.mk ((by rw [hg]; exact (below_size (by repeat (first | (with_reducible first | exact HB.out | apply below_alloc | apply pw_below_drewN | apply below_drew1) | exact HB.out))) : w.heap.size ≤ gb202)); clear HB; have HB := n0_; have BK202 := n1_; have GW202 := n2_; have GE202 := n3_; clear n0_ n1_ n2_ n3_; clear hb hbox hg; have hcz9_0 : w8.cell? ⟨gb202, 0, none⟩ = some (.int .i64 0) := (blk_cell BK202.out 0).trans rfl; have hcz9_1 : w8.cell? ⟨gb202, 1, none⟩ = some (.bool false) := (blk_cell BK202.out 1).trans rfl; have hcz9_2 : w8.cell? ⟨gb202, 2, none⟩ = some (.int .u8 0) := (blk_cell BK202.out 2).trans rfl; have hcz9_3 : w8.cell? ⟨gb202, 3, none⟩ = some (.int .u8 0) := (blk_cell BK202.out 3).trans rfl; have hcz9_4 : w8.cell? ⟨gb202, 4, none⟩ = some (.int .u8 0) := (blk_cell BK202.out 4).trans rfl; have hcz9_5 : w8.cell? ⟨gb202, 5, none⟩ = some (.bool false) := (blk_cell BK202.out 5).trans rfl; have hfz9_0 := blk_frozen BK202.out 0; have hfz9_1 := blk_frozen BK202.out 1; have hfz9_2 := blk_frozen BK202.out 2; have hfz9_3 := blk_frozen BK202.out 3; have hfz9_4 := blk_frozen BK202.out 4; have hfz9_5 := blk_frozen BK202.out 5))
    go_loopg [8] k (fun kq v8 w' => ∃ (x8_1 : Int) (x203000_1 : Int) (x203001_1 : Bool) (x203002_1 : Int) (x203003_1 : Int) (x203004_1 : Int) (x203005_1 : Bool), v8 = .int .i64 x8_1 ∧ Aside0 (whirligiglaw08_MapperKeeps.l0 kq a0 l1 t194 x8_1 x203000_1 x203001_1 x203002_1 x203003_1 x203004_1 x203005_1 = some r) ∧ Aside0 (kq ≤ k) ∧ Aside0 (w'.heap[gb202]? = some (.cells #[.int .i64 x203000_1, .bool x203001_1, .int .u8 x203002_1, .int .u8 x203003_1, .int .u8 x203004_1, .bool x203005_1] 24 (0, 0))) ∧ Aside0 (Below w.heap.size w w'))
    case atStart => exact ⟨(0), (t195), (t196), (t197), (t198), (t199), (t200), (by first | rfl | (simp; done) | (simp [*]; done)), H', ⟨Nat.le_refl _⟩, ⟨by (with_reducible repeat (first | refine blk_drewN ?_ _ | refine blk_drew ?_ | refine blk_alloc ?_ _)); refine blk_put (cs := #[.int .i64 t195, .bool t196, .int .u8 t197, .int .u8 t198, .int .u8 t199, .bool false]) ?_ 5 _ rfl; (with_reducible repeat (first | refine blk_drewN ?_ _ | refine blk_drew ?_ | refine blk_alloc ?_ _)); refine blk_put (cs := #[.int .i64 t195, .bool t196, .int .u8 t197, .int .u8 t198, .int .u8 0, .bool false]) ?_ 4 _ rfl; (with_reducible repeat (first | refine blk_drewN ?_ _ | refine blk_drew ?_ | refine blk_alloc ?_ _)); refine blk_put (cs := #[.int .i64 t195, .bool t196, .int .u8 t197, .int .u8 0, .int .u8 0, .bool false]) ?_ 3 _ rfl; (with_reducible repeat (first | refine blk_drewN ?_ _ | refine blk_drew ?_ | refine blk_alloc ?_ _)); refine blk_put (cs := #[.int .i64 t195, .bool t196, .int .u8 0, .int .u8 0, .int .u8 0, .bool false]) ?_ 2 _ rfl; (with_reducible repeat (first | refine blk_drewN ?_ _ | refine blk_drew ?_ | refine blk_alloc ?_ _)); refine blk_put (cs := #[.int .i64 t195, .bool false, .int .u8 0, .int .u8 0, .int .u8 0, .bool false]) ?_ 1 _ rfl; (with_reducible repeat (first | refine blk_drewN ?_ _ | refine blk_drew ?_ | refine blk_alloc ?_ _)); refine blk_put (cs := #[.int .i64 0, .bool false, .int .u8 0, .int .u8 0, .int .u8 0, .bool false]) ?_ 0 _ rfl; (with_reducible repeat (first | refine blk_drewN ?_ _ | refine blk_drew ?_ | refine blk_alloc ?_ _)); exact BK202.out⟩, ⟨by repeat (first | (with_reducible first | exact HB.out | apply below_alloc | apply pw_below_drewN | apply below_drew1 | refine below_set ?_ GE202.out) | exact HB.out)⟩⟩
    case round =>
      clear H'
      try clear c1
      try clear p2
      try clear c5
      try clear c5b0
      try clear c5b1
      try clear c7
      try clear hcz9_0
      try clear hcz9_1
      try clear hcz9_2
      try clear hcz9_3
      try clear hcz9_4
      try clear hcz9_5
      try clear hfz9_0
      try clear hfz9_1
      try clear hfz9_2
      try clear hfz9_3
      try clear hfz9_4
      try clear hfz9_5
      obtain ⟨x8_1, x203000_1, x203001_1, x203002_1, x203003_1, x203004_1, x203005_1, rfl, HA, HK1, BK202, HB⟩ := hrel
      cases gk with
      | zero => exact absurd HA.out (by simp [whirligiglaw08_MapperKeeps.l0])
      | succ k1 =>
        have H := HA.out
        clear HA
        simp only [whirligiglaw08_MapperKeeps.l0] at H
        by_cases c10 : x8_1 < (l1.length : Int)
        · rw [if_pos c10] at H
          have c10b0 : decide (x8_1 < (l1.length : Int)) = true := decide_eq_true c10
          clear c10
          by_cases c11 : 0 ≤ x8_1
          · rw [if_pos c11] at H
            have c11b0 : decide (0 ≤ x8_1) = true := decide_eq_true c11
            clear c11
            replace H := Option.bind_eq_some_iff.mp H
            obtain ⟨⟨t205, t206, t207, t208, t209, t210⟩, A120, H⟩ := H
            replace H : (if a0 = 1 then (whirligiglaw08_MapperKeeps.j1 k1 a0 l1 t194 x8_1 1 a0 (a0 == 1) t205 t206 t207 t208 t209 t210) else (whirligiglaw08_MapperKeeps.j1 k1 a0 l1 t194 x8_1 1 a0 (a0 == 3) t205 t206 t207 t208 t209 t210)) = some r := H
            have A12 := Aside0.mk A120
            clear A120
            have HC13 := Aside0.mk H
            clear H
            try go_wp2
            have n0_ := Aside0.mk (blk_drew BK202.out)
            have n1_ := Aside0.mk (below_drew1 HB.out)
            clear BK202
            clear HB
            have BK202 := n0_
            have HB := n1_
            clear n0_ n1_
            have p203 : 0 ≤ (x8_1 : Int) := of_decide_eq_true (by first | (with_reducible assumption) | assumption)
            have q203 : x8_1 < (l1.length : Int) := of_decide_eq_true (by first | (with_reducible assumption) | assumption)
            obtain ⟨ad203, e203, hx203_0, hx203_1⟩ := at_T40 HR1.out x8_1 p203 q203
            have hw203_1 := hx203_1
            have hw203_0 := hx203_0
            cases e203
            replace hx203_0 := (HB.out.cell (World.block_lt_of_cell? w _ hx203_0)).trans hx203_0
            replace hx203_1 := (HB.out.cell (World.block_lt_of_cell? w _ hx203_1)).trans hx203_1
            replace p203 := eq_true p203
            replace q203 := eq_true q203
            have p204 : 0 ≤ (x8_1 : Int) := of_decide_eq_true (by first | (with_reducible assumption) | assumption)
            have q204 : x8_1 < (l1.length : Int) := of_decide_eq_true (by first | (with_reducible assumption) | assumption)
            obtain ⟨ad204, e204, hx204_0, hx204_1⟩ := at_T40 HR1.out x8_1 p204 q204
            have hw204_1 := hx204_1
            have hw204_0 := hx204_0
            obtain rfl : ad203 = ad204 := (by injection e204)
            replace hx204_0 := (HB.out.cell (World.block_lt_of_cell? w _ hx204_0)).trans hx204_0
            replace hx204_1 := (HB.out.cell (World.block_lt_of_cell? w _ hx204_1)).trans hx204_1
            replace p204 := eq_true p204
            replace q204 := eq_true q204
            refine start_ (n := 13) (S := fun w' => w'.cell? ⟨gb202, 0, none⟩ = some (.int .i64 x203000_1) ∧ w'.cell? ⟨gb202, 1, none⟩ = some (.bool x203001_1) ∧ w'.cell? ⟨gb202, 2, none⟩ = some (.int .u8 x203002_1) ∧ w'.cell? ⟨gb202, 3, none⟩ = some (.int .u8 x203003_1) ∧ w'.cell? ⟨gb202, 4, none⟩ = some (.int .u8 x203004_1) ∧ w'.cell? ⟨gb202, 5, none⟩ = some (.bool x203005_1) ∧ w'.cell? (ad203.add ((x8_1).toNat * 2)) = some (.int .u16 ((rd_T40 l1 x8_1).f0)) ∧ w'.cell? ⟨(ad203.add ((x8_1).toNat * 2)).block, (ad203.add ((x8_1).toNat * 2)).off + 1, none⟩ = some (.int .u8 ((rd_T40 l1 x8_1).f1)) ∧ w'.cell? (ad203.add ((x8_1).toNat * 2)) = some (.int .u16 ((rd_T40 l1 x8_1).f0)) ∧ w'.cell? ⟨(ad203.add ((x8_1).toNat * 2)).block, (ad203.add ((x8_1).toNat * 2)).off + 1, none⟩ = some (.int .u8 ((rd_T40 l1 x8_1).f1))) (ds := [12]) #[false, false, false, false, false, false, false, false, false, false, false, false, false] (by kernel_rfl) rfl rfl ⟨(blk_cell BK202.out 0).trans rfl, (blk_cell BK202.out 1).trans rfl, (blk_cell BK202.out 2).trans rfl, (blk_cell BK202.out 3).trans rfl, (blk_cell BK202.out 4).trans rfl, (blk_cell BK202.out 5).trans rfl, ((HB.out.cell (World.block_lt_of_cell? w _ hw203_0)).trans hw203_0), ((HB.out.cell (World.block_lt_of_cell? w _ hw203_1)).trans hw203_1), ((HB.out.cell (World.block_lt_of_cell? w _ hw204_0)).trans hw204_0), ((HB.out.cell (World.block_lt_of_cell? w _ hw204_1)).trans hw204_1)⟩ (fun hHeld => ?_); refine with_tabW whirligiglaw08_MapperKeeps.tab8 whirligiglaw08_MapperKeeps.bits8 (fun HT_ HW_ => ?_)
            generalize wr.drew = w14 at BK202 HB hx203_0 hx203_1 hx204_0 hx204_1 hHeld ⊢
            refine pure_ (i := 1) (N := some 31) (v := ?_) (a' := ?_) #[false, true, false, false, false, false, false, false, false, false, false, false, false] rfl rfl (any_of HT_.out (by kernel_rfl)) (fun _ _ _ h => h) (Or.inl ⟨by rfl, ?_⟩) ?_ ?_
            rotate_left
            · intro w'
              go_simp
              with_reducible rfl
            rotate_left
            · simp only [Act.put, List.setIfInBounds_toArray, List.set_cons_zero, List.set_cons_succ, i64_w, i32_w]
              rfl
            refine pure_ (i := 2) (N := some 32) (v := ?_) (a' := ?_) #[false, true, true, false, false, false, false, false, false, false, false, false, false] rfl rfl (any_of HT_.out (by kernel_rfl)) (fun _ _ _ h => h) (Or.inl ⟨by rfl, ?_⟩) ?_ ?_
            rotate_left
            · intro w'
              go_simp
              with_reducible rfl
            rotate_left
            · simp only [Act.put, List.setIfInBounds_toArray, List.set_cons_zero, List.set_cons_succ, i64_w, i32_w]
              rfl
            refine pure_ (i := 3) (N := some 33) (v := ?_) (a' := ?_) #[false, true, true, true, false, false, false, false, false, false, false, false, false] rfl rfl (any_of HT_.out (by kernel_rfl)) (fun _ _ _ h => h) (Or.inl ⟨by rfl, ?_⟩) ?_ ?_
            rotate_left
            · intro w'
              go_simp
              with_reducible rfl
            rotate_left
            · simp only [Act.put, List.setIfInBounds_toArray, List.set_cons_zero, List.set_cons_succ, i64_w, i32_w]
              rfl
            refine pure_ (i := 4) (N := some 34) (v := ?_) (a' := ?_) #[false, true, true, true, true, false, false, false, false, false, false, false, false] rfl rfl (any_of HT_.out (by kernel_rfl)) (fun _ _ _ h => h) (Or.inl ⟨by rfl, ?_⟩) ?_ ?_
            rotate_left
            · intro w'
              go_simp
              with_reducible rfl
            rotate_left
            · simp only [Act.put, List.setIfInBounds_toArray, List.set_cons_zero, List.set_cons_succ, i64_w, i32_w]
              rfl
            refine pure_ (i := 6) (N := some 36) (v := ?_) (a' := ?_) #[false, true, true, true, true, false, true, false, false, false, false, false, false] rfl rfl (any_of HT_.out (by kernel_rfl)) (fun _ _ _ h => h) (Or.inl ⟨by rfl, ?_⟩) ?_ ?_
            rotate_left
            · intro w'
              go_simp
              with_reducible rfl
            rotate_left
            · simp only [Act.put, List.setIfInBounds_toArray, List.set_cons_zero, List.set_cons_succ, i64_w, i32_w]
              rfl
            refine pure_ (i := 7) (N := some 37) (v := ?_) (a' := ?_) #[false, true, true, true, true, false, true, true, false, false, false, false, false] rfl rfl (any_of HT_.out (by kernel_rfl)) (fun _ _ _ h => h) (Or.inl ⟨by rfl, ?_⟩) ?_ ?_
            rotate_left
            · intro w'
              go_simp
              with_reducible rfl
            rotate_left
            · simp only [Act.put, List.setIfInBounds_toArray, List.set_cons_zero, List.set_cons_succ, i64_w, i32_w]
              rfl
            refine pure_ (i := 8) (N := some 38) (v := ?_) (a' := ?_) #[false, true, true, true, true, false, true, true, true, false, false, false, false] rfl rfl (any_of HT_.out (by kernel_rfl)) (fun _ _ _ h => h) (Or.inl ⟨by rfl, ?_⟩) ?_ ?_
            rotate_left
            · intro w'
              go_simp
              with_reducible rfl
            rotate_left
            · simp only [Act.put, List.setIfInBounds_toArray, List.set_cons_zero, List.set_cons_succ, i64_w, i32_w]
              rfl
            refine pure_ (i := 9) (N := some 39) (v := ?_) (a' := ?_) #[false, true, true, true, true, false, true, true, true, true, false, false, false] rfl rfl (any_of HT_.out (by kernel_rfl)) (fun _ _ _ h => h) (Or.inl ⟨by rfl, ?_⟩) ?_ ?_
            rotate_left
            · intro w'
              go_simp
              with_reducible rfl
            rotate_left
            · simp only [Act.put, List.setIfInBounds_toArray, List.set_cons_zero, List.set_cons_succ, i64_w, i32_w]
              rfl
            refine take_ (i := 0) (N := some 30) (v := ?_) (a' := ?_) #[true, true, true, true, true, false, true, true, true, true, false, false, false] rfl rfl (take_ofW HT_.out HW_.out (by kernel_rfl)) (fun _ _ _ h => h) (Or.inl ⟨by rfl, ?_⟩) hHeld ?_ ?_
            rotate_left
            · rintro w' ⟨s0, s1, s2, s3, s4, s5, s6, s7, s8, s9⟩
              go_simp
              with_reducible rfl
            rotate_left
            · simp only [Act.put, List.setIfInBounds_toArray, List.set_cons_zero, List.set_cons_succ, i64_w, i32_w]
              rfl
            refine take_ (i := 5) (N := some 35) (v := ?_) (a' := ?_) #[true, true, true, true, true, true, true, true, true, true, false, false, false] rfl rfl (take_ofW HT_.out HW_.out (by kernel_rfl)) (fun _ _ _ h => h) (Or.inl ⟨by rfl, ?_⟩) hHeld ?_ ?_
            rotate_left
            · rintro w' ⟨s0, s1, s2, s3, s4, s5, s6, s7, s8, s9⟩
              go_simp
              with_reducible rfl
            rotate_left
            · simp only [Act.put, List.setIfInBounds_toArray, List.set_cons_zero, List.set_cons_succ, i64_w, i32_w]
              rfl
            refine take_ (i := 10) (N := some 40) (v := ?_) (a' := ?_) #[true, true, true, true, true, true, true, true, true, true, true, false, false] rfl rfl (take_ofW HT_.out HW_.out (by kernel_rfl)) (fun _ _ _ h => h) (Or.inl ⟨by rfl, ?_⟩) hHeld ?_ ?_
            rotate_left
            · rintro w' ⟨s0, s1, s2, s3, s4, s5, s6, s7, s8, s9⟩
              go_simp
              with_reducible rfl
            rotate_left
            · simp only [Act.put, List.setIfInBounds_toArray, List.set_cons_zero, List.set_cons_succ, i64_w, i32_w]
              rfl
            refine one_ (i := 11) (N := some 41) #[true, true, true, true, true, true, true, true, true, true, true, true, false] rfl rfl (one_of HT_.out (by kernel_rfl)) (by decide) (fun K hK => ?_)
            refine goes_ Try.func13 (by kernel_rfl) rfl #[.agg #[.int .i64 x203000_1, .bool x203001_1, .int .u8 x203002_1, .int .u8 x203003_1, .int .u8 x203004_1, .bool x203005_1], .int .u16 ((rd_T40 l1 x8_1).f0), .int .u8 ((rd_T40 l1 x8_1).f1)] (by rfl) rfl rfl (by (try simp only [List.map_toArray, List.map_cons, List.map_nil]); first | done | rfl | (simp only [List.length_drop, List.length_take]; rfl)) ?_
            with_reducible refine (mapper_Write.calls x203000_1 x203001_1 x203002_1 x203003_1 x203004_1 x203005_1 ((rd_T40 l1 x8_1).f0) ((rd_T40 l1 x8_1).f1) t205 t206 t207 t208 t209 t210 _ A12.out).mono ?_
            rintro e w15 ⟨rfl, hb⟩
            refine ⟨_, rfl, ?_⟩
            have n0_ := Aside0.mk (blk_below (g := gb202) (o := .cells #[.int .i64 x203000_1, .bool x203001_1, .int .u8 x203002_1, .int .u8 x203003_1, .int .u8 x203004_1, .bool x203005_1] 24 (0, 0)) (by (with_reducible repeat (first | refine blk_drewN ?_ _ | refine blk_drew ?_ | refine blk_alloc ?_ _)); exact BK202.out) hb)
            have n1_ := Aside0.mk (below_step (by repeat (first | (with_reducible first | exact HB.out | apply below_alloc | apply pw_below_drewN | apply below_drew1 | refine below_set ?_ GE202.out) | exact HB.out)) hb)
            clear BK202
            clear HB
            have BK202 := n0_
            have HB := n1_
            clear n0_ n1_
            (try clear hb)
            (try clear hb2)
            (try clear hk)
            (try clear hi)
            refine hK.out _ _ ⟨(blk_cell BK202.out 0).trans rfl, (blk_cell BK202.out 1).trans rfl, (blk_cell BK202.out 2).trans rfl, (blk_cell BK202.out 3).trans rfl, (blk_cell BK202.out 4).trans rfl, (blk_cell BK202.out 5).trans rfl, ((HB.out.cell (World.block_lt_of_cell? w _ hw203_0)).trans hw203_0), ((HB.out.cell (World.block_lt_of_cell? w _ hw203_1)).trans hw203_1), ((HB.out.cell (World.block_lt_of_cell? w _ hw204_0)).trans hw204_0), ((HB.out.cell (World.block_lt_of_cell? w _ hw204_1)).trans hw204_1)⟩ (fun hHeld => ?_)
            clear hK K
            refine norm_ (a' := ?_) ?_ ?_
            rotate_left
            · show Act.put _ (some 41) _ = _
              simp only [Act.put, List.setIfInBounds_toArray, List.set_cons_zero, List.set_cons_succ, i64_w, i32_w]
              rfl
            refine last_ (i := 12) (N := none) #[true, true, true, true, true, true, true, true, true, true, true, true, true] rfl rfl (one_of HT_.out (by kernel_rfl)) (by decide) (fun K hK => ?_)
            have hs16 : w15.cell? ⟨gb202, 0, none⟩ = some (.int .i64 x203000_1) := (blk_cell BK202.out 0).trans rfl
            have hfs16 := blk_frozen BK202.out 0
            have hs17 : w15.cell? ⟨gb202, 1, none⟩ = some (.bool x203001_1) := (blk_cell BK202.out 1).trans rfl
            have hfs17 := blk_frozen BK202.out 1
            have hs18 : w15.cell? ⟨gb202, 2, none⟩ = some (.int .u8 x203002_1) := (blk_cell BK202.out 2).trans rfl
            have hfs18 := blk_frozen BK202.out 2
            have hs19 : w15.cell? ⟨gb202, 3, none⟩ = some (.int .u8 x203003_1) := (blk_cell BK202.out 3).trans rfl
            have hfs19 := blk_frozen BK202.out 3
            have hs20 : w15.cell? ⟨gb202, 4, none⟩ = some (.int .u8 x203004_1) := (blk_cell BK202.out 4).trans rfl
            have hfs20 := blk_frozen BK202.out 4
            have hs21 : w15.cell? ⟨gb202, 5, none⟩ = some (.bool x203005_1) := (blk_cell BK202.out 5).trans rfl
            have hfs21 := blk_frozen BK202.out 5
            refine skip_ (w1 := ?_) (by rfl) rfl ?_ ?_
            rotate_left
            · go_simp
              rfl
            refine hK.out _ _ ?_
            clear hK K
            refine done_ (done_of HT_.out (by kernel_rfl)) ?_
            go_upto_block 2 with (fail)
            go_cut [9] (fun v9 wc => ∃ (kq : Nat) (x9_12 : Int), v9 = .int .i64 x9_12 ∧ Aside0 (whirligiglaw08_MapperKeeps.j2 kq a0 l1 t194 x8_1 x9_12 t205 t206 t207 t208 t209 t210 = some r) ∧ Aside0 (kq ≤ k1) ∧ Aside0 (wc.heap[gb202]? = some (.cells #[.int .i64 t205, .bool t206, .int .u8 t207, .int .u8 t208, .int .u8 t209, .bool t210] 24 (0, 0))) ∧ Aside0 (Below w.heap.size w wc))
            case first =>
              have H := HC13.out
              clear HC13
              have HC22 := Aside0.mk H
              clear H
              go_upto_if 43 with (fail)
              go_cut [43] (fun v43 wc => ∃ (kq : Nat) (x43_21 : Bool), v43 = .bool x43_21 ∧ Aside0 (whirligiglaw08_MapperKeeps.j1 kq a0 l1 t194 x8_1 1 a0 x43_21 t205 t206 t207 t208 t209 t210 = some r) ∧ Aside0 (kq ≤ k1) ∧ Aside0 (wc.heap[gb202]? = some (.cells #[.int .i64 t205, .bool t206, .int .u8 t207, .int .u8 t208, .int .u8 t209, .bool t210] 24 (0, 0))) ∧ Aside0 (Below w.heap.size w wc))
              case first =>
                have H := HC22.out
                clear HC22
                by_cases c23 : a0 = 1
                · rw [if_pos c23] at H
                  have c23b0 : (a0 == 1) = true := beq_iff_eq.mpr c23
                  have c23b1 : (a0 != 1) = false := bne_eq_false_iff_eq.mpr c23
                  clear c23
                  (first | rw [c23b0] | (simp only [i64_w, i32_w]; rw [c23b0]) | skip)
                  have H' := Aside0.mk H
                  clear H
                  go_wp2
                  go_meet
                  case rel => exact ⟨_, ((a0 == 1)), (by first | rfl | (simp; done) | (simp [*]; done)), H', ⟨by have := HK1.out; first | omega | exact Nat.le_refl _⟩, ⟨by (with_reducible repeat (first | refine blk_drewN ?_ _ | refine blk_drew ?_ | refine blk_alloc ?_ _)); refine blk_put (cs := #[.int .i64 t205, .bool t206, .int .u8 t207, .int .u8 t208, .int .u8 t209, .bool x203005_1]) ?_ 5 _ rfl; (with_reducible repeat (first | refine blk_drewN ?_ _ | refine blk_drew ?_ | refine blk_alloc ?_ _)); refine blk_put (cs := #[.int .i64 t205, .bool t206, .int .u8 t207, .int .u8 t208, .int .u8 x203004_1, .bool x203005_1]) ?_ 4 _ rfl; (with_reducible repeat (first | refine blk_drewN ?_ _ | refine blk_drew ?_ | refine blk_alloc ?_ _)); refine blk_put (cs := #[.int .i64 t205, .bool t206, .int .u8 t207, .int .u8 x203003_1, .int .u8 x203004_1, .bool x203005_1]) ?_ 3 _ rfl; (with_reducible repeat (first | refine blk_drewN ?_ _ | refine blk_drew ?_ | refine blk_alloc ?_ _)); refine blk_put (cs := #[.int .i64 t205, .bool t206, .int .u8 x203002_1, .int .u8 x203003_1, .int .u8 x203004_1, .bool x203005_1]) ?_ 2 _ rfl; (with_reducible repeat (first | refine blk_drewN ?_ _ | refine blk_drew ?_ | refine blk_alloc ?_ _)); refine blk_put (cs := #[.int .i64 t205, .bool x203001_1, .int .u8 x203002_1, .int .u8 x203003_1, .int .u8 x203004_1, .bool x203005_1]) ?_ 1 _ rfl; (with_reducible repeat (first | refine blk_drewN ?_ _ | refine blk_drew ?_ | refine blk_alloc ?_ _)); refine blk_put (cs := #[.int .i64 x203000_1, .bool x203001_1, .int .u8 x203002_1, .int .u8 x203003_1, .int .u8 x203004_1, .bool x203005_1]) ?_ 0 _ rfl; (with_reducible repeat (first | refine blk_drewN ?_ _ | refine blk_drew ?_ | refine blk_alloc ?_ _)); exact BK202.out⟩, ⟨by repeat (first | (with_reducible first | exact HB.out | apply below_alloc | apply pw_below_drewN | apply below_drew1 | refine below_set ?_ GE202.out) | exact HB.out)⟩⟩
                · rw [if_neg c23] at H
                  have c23b0 : (a0 == 1) = false := beq_eq_false_iff_ne.mpr c23
                  have c23b1 : (a0 != 1) = true := bne_iff_ne.mpr c23
                  (first | rw [c23b0] | (simp only [i64_w, i32_w]; rw [c23b0]) | skip)
                  have H' := Aside0.mk H
                  clear H
                  go_wp2
                  go_meet
                  case rel => exact ⟨_, ((a0 == 3)), (by first | rfl | (simp; done) | (simp [*]; done)), H', ⟨by have := HK1.out; first | omega | exact Nat.le_refl _⟩, ⟨by (with_reducible repeat (first | refine blk_drewN ?_ _ | refine blk_drew ?_ | refine blk_alloc ?_ _)); refine blk_put (cs := #[.int .i64 t205, .bool t206, .int .u8 t207, .int .u8 t208, .int .u8 t209, .bool x203005_1]) ?_ 5 _ rfl; (with_reducible repeat (first | refine blk_drewN ?_ _ | refine blk_drew ?_ | refine blk_alloc ?_ _)); refine blk_put (cs := #[.int .i64 t205, .bool t206, .int .u8 t207, .int .u8 t208, .int .u8 x203004_1, .bool x203005_1]) ?_ 4 _ rfl; (with_reducible repeat (first | refine blk_drewN ?_ _ | refine blk_drew ?_ | refine blk_alloc ?_ _)); refine blk_put (cs := #[.int .i64 t205, .bool t206, .int .u8 t207, .int .u8 x203003_1, .int .u8 x203004_1, .bool x203005_1]) ?_ 3 _ rfl; (with_reducible repeat (first | refine blk_drewN ?_ _ | refine blk_drew ?_ | refine blk_alloc ?_ _)); refine blk_put (cs := #[.int .i64 t205, .bool t206, .int .u8 x203002_1, .int .u8 x203003_1, .int .u8 x203004_1, .bool x203005_1]) ?_ 2 _ rfl; (with_reducible repeat (first | refine blk_drewN ?_ _ | refine blk_drew ?_ | refine blk_alloc ?_ _)); refine blk_put (cs := #[.int .i64 t205, .bool x203001_1, .int .u8 x203002_1, .int .u8 x203003_1, .int .u8 x203004_1, .bool x203005_1]) ?_ 1 _ rfl; (with_reducible repeat (first | refine blk_drewN ?_ _ | refine blk_drew ?_ | refine blk_alloc ?_ _)); refine blk_put (cs := #[.int .i64 x203000_1, .bool x203001_1, .int .u8 x203002_1, .int .u8 x203003_1, .int .u8 x203004_1, .bool x203005_1]) ?_ 0 _ rfl; (with_reducible repeat (first | refine blk_drewN ?_ _ | refine blk_drew ?_ | refine blk_alloc ?_ _)); exact BK202.out⟩, ⟨by repeat (first | (with_reducible first | exact HB.out | apply below_alloc | apply pw_below_drewN | apply below_drew1 | refine below_set ?_ GE202.out) | exact HB.out)⟩⟩
              case rest =>
                clear HC22
                try clear c1
                try clear c2
                try clear p2
                try clear q2
                try clear hx2
                try clear c5
                try clear c5b0
                try clear c5b1
                try clear c7
                try clear c10
                try clear c10b0
                try clear c11
                try clear c11b0
                try clear c13
                try clear p20
                try clear q20
                try clear hx20
                try clear c23
                try clear c23b0
                try clear c23b1
                try clear hcz9_0
                try clear hcz9_1
                try clear hcz9_2
                try clear hcz9_3
                try clear hcz9_4
                try clear hcz9_5
                try clear hfz9_0
                try clear hfz9_1
                try clear hfz9_2
                try clear hfz9_3
                try clear hfz9_4
                try clear hfz9_5
                try clear hx203_0
                try clear hx203_1
                try clear hx204_0
                try clear hx204_1
                try clear p2
                try clear p203
                try clear p204
                try clear q203
                try clear q204
                obtain ⟨kq, x43_21, rfl, HA, HJ21, BK202, HB⟩ := hcut
                cases kq with
                | zero => exact absurd HA.out (by simp [whirligiglaw08_MapperKeeps.j1])
                | succ kj21 =>
                  have H := HA.out
                  clear HA
                  simp only [whirligiglaw08_MapperKeeps.j1] at H
                  by_cases c24 : x43_21 = true
                  · subst c24
                    have H1 : (whirligiglaw08_MapperKeeps.j2 kj21 a0 l1 t194 x8_1 127 t205 t206 t207 t208 t209 t210) = some r := by rw [if_pos rfl] at H; exact H
                    clear H
                    have H := H1
                    clear H1
                    have H' := Aside0.mk H
                    clear H
                    go_wp2
                    go_meet
                    case rel => exact ⟨_, (127), (by first | rfl | (simp; done) | (simp [*]; done)), H', ⟨by have := HK1.out; have := HJ21.out; first | omega | exact Nat.le_refl _⟩, ⟨by (with_reducible repeat (first | refine blk_drewN ?_ _ | refine blk_drew ?_ | refine blk_alloc ?_ _)); exact BK202.out⟩, ⟨by repeat (first | (with_reducible first | exact HB.out | apply below_alloc | apply pw_below_drewN | apply below_drew1 | refine below_set ?_ GE202.out) | exact HB.out)⟩⟩
                  · replace c24 := Bool.eq_false_iff.mpr c24
                    subst c24
                    have H1 : (if a0 = 5 then (whirligiglaw08_MapperKeeps.j2 kj21 a0 l1 t194 x8_1 511 t205 t206 t207 t208 t209 t210) else (whirligiglaw08_MapperKeeps.j2 kj21 a0 l1 t194 x8_1 1 t205 t206 t207 t208 t209 t210)) = some r := by rw [if_neg (show ¬ (false = true) by decide)] at H; exact H
                    clear H
                    have H := H1
                    clear H1
                    by_cases c25 : a0 = 5
                    · rw [if_pos c25] at H
                      have c25b0 : (a0 == 5) = true := beq_iff_eq.mpr c25
                      have c25b1 : (a0 != 5) = false := bne_eq_false_iff_eq.mpr c25
                      clear c25
                      have H' := Aside0.mk H
                      clear H
                      go_wp2
                      go_meet
                      case rel => exact ⟨_, (511), (by first | rfl | (simp; done) | (simp [*]; done)), H', ⟨by have := HK1.out; have := HJ21.out; first | omega | exact Nat.le_refl _⟩, ⟨by (with_reducible repeat (first | refine blk_drewN ?_ _ | refine blk_drew ?_ | refine blk_alloc ?_ _)); exact BK202.out⟩, ⟨by repeat (first | (with_reducible first | exact HB.out | apply below_alloc | apply pw_below_drewN | apply below_drew1 | refine below_set ?_ GE202.out) | exact HB.out)⟩⟩
                    · rw [if_neg c25] at H
                      have c25b0 : (a0 == 5) = false := beq_eq_false_iff_ne.mpr c25
                      have c25b1 : (a0 != 5) = true := bne_iff_ne.mpr c25
                      have H' := Aside0.mk H
                      clear H
                      go_wp2
                      go_meet
                      case rel => exact ⟨_, (1), (by first | rfl | (simp; done) | (simp [*]; done)), H', ⟨by have := HK1.out; have := HJ21.out; first | omega | exact Nat.le_refl _⟩, ⟨by (with_reducible repeat (first | refine blk_drewN ?_ _ | refine blk_drew ?_ | refine blk_alloc ?_ _)); exact BK202.out⟩, ⟨by repeat (first | (with_reducible first | exact HB.out | apply below_alloc | apply pw_below_drewN | apply below_drew1 | refine below_set ?_ GE202.out) | exact HB.out)⟩⟩
            case rest =>
              clear HC13
              try clear c1
              try clear c2
              try clear p2
              try clear q2
              try clear hx2
              try clear c5
              try clear c5b0
              try clear c5b1
              try clear c7
              try clear c10
              try clear c10b0
              try clear c11
              try clear c11b0
              try clear c13
              try clear p20
              try clear q20
              try clear hx20
              try clear c23
              try clear c23b0
              try clear c23b1
              try clear c24
              try clear c25
              try clear c25b0
              try clear c25b1
              try clear hcz9_0
              try clear hcz9_1
              try clear hcz9_2
              try clear hcz9_3
              try clear hcz9_4
              try clear hcz9_5
              try clear hfz9_0
              try clear hfz9_1
              try clear hfz9_2
              try clear hfz9_3
              try clear hfz9_4
              try clear hfz9_5
              try clear hx203_0
              try clear hx203_1
              try clear hx204_0
              try clear hx204_1
              try clear p2
              try clear p20
              try clear p203
              try clear p204
              try clear q2
              try clear q20
              try clear q203
              try clear q204
              obtain ⟨kq, x9_12, rfl, HA, HJ12, BK202, HB⟩ := hcut
              cases kq with
              | zero => exact absurd HA.out (by simp [whirligiglaw08_MapperKeeps.j2])
              | succ kj12 =>
                have H := HA.out
                clear HA
                simp only [whirligiglaw08_MapperKeeps.j2] at H
                by_cases c26 : t205 = a0
                · rw [if_pos c26] at H
                  have c26b0 : (t205 == a0) = true := beq_iff_eq.mpr c26
                  have c26b1 : (t205 != a0) = false := bne_eq_false_iff_eq.mpr c26
                  clear c26
                  by_cases c27 : t208 > 3
                  · rw [if_pos c27] at H
                    have c27b0 : decide (3 < t208) = true := decide_eq_true c27
                    clear c27
                    obtain rfl := Option.some.inj H
                    have hcz28_0 : wc.cell? ⟨gb202, 0, none⟩ = some (.int .i64 t205) := (blk_cell BK202.out 0).trans rfl
                    have hcz28_1 : wc.cell? ⟨gb202, 1, none⟩ = some (.bool t206) := (blk_cell BK202.out 1).trans rfl
                    have hcz28_2 : wc.cell? ⟨gb202, 2, none⟩ = some (.int .u8 t207) := (blk_cell BK202.out 2).trans rfl
                    have hcz28_3 : wc.cell? ⟨gb202, 3, none⟩ = some (.int .u8 t208) := (blk_cell BK202.out 3).trans rfl
                    have hcz28_4 : wc.cell? ⟨gb202, 4, none⟩ = some (.int .u8 t209) := (blk_cell BK202.out 4).trans rfl
                    have hcz28_5 : wc.cell? ⟨gb202, 5, none⟩ = some (.bool t210) := (blk_cell BK202.out 5).trans rfl
                    have hfz28_0 := blk_frozen BK202.out 0
                    have hfz28_1 := blk_frozen BK202.out 1
                    have hfz28_2 := blk_frozen BK202.out 2
                    have hfz28_3 := blk_frozen BK202.out 3
                    have hfz28_4 := blk_frozen BK202.out 4
                    have hfz28_5 := blk_frozen BK202.out 5
                    go_wp2
                    go_ret
                    exact ⟨by first | rfl | (simp [errW_none, errW_some] <;> rfl) | (simp [*, errW_none, errW_some] <;> rfl), by repeat (first | (with_reducible first | exact HB.out | apply below_alloc | apply pw_below_drewN | apply below_drew1 | refine below_set ?_ GE202.out) | exact HB.out)⟩
                  · rw [if_neg c27] at H
                    have c27b0 : decide (3 < t208) = false := decide_eq_false c27
                    clear c27
                    by_cases c29 : t209 > 15
                    · rw [if_pos c29] at H
                      have c29b0 : decide (15 < t209) = true := decide_eq_true c29
                      clear c29
                      obtain rfl := Option.some.inj H
                      have hcz30_0 : wc.cell? ⟨gb202, 0, none⟩ = some (.int .i64 t205) := (blk_cell BK202.out 0).trans rfl
                      have hcz30_1 : wc.cell? ⟨gb202, 1, none⟩ = some (.bool t206) := (blk_cell BK202.out 1).trans rfl
                      have hcz30_2 : wc.cell? ⟨gb202, 2, none⟩ = some (.int .u8 t207) := (blk_cell BK202.out 2).trans rfl
                      have hcz30_3 : wc.cell? ⟨gb202, 3, none⟩ = some (.int .u8 t208) := (blk_cell BK202.out 3).trans rfl
                      have hcz30_4 : wc.cell? ⟨gb202, 4, none⟩ = some (.int .u8 t209) := (blk_cell BK202.out 4).trans rfl
                      have hcz30_5 : wc.cell? ⟨gb202, 5, none⟩ = some (.bool t210) := (blk_cell BK202.out 5).trans rfl
                      have hfz30_0 := blk_frozen BK202.out 0
                      have hfz30_1 := blk_frozen BK202.out 1
                      have hfz30_2 := blk_frozen BK202.out 2
                      have hfz30_3 := blk_frozen BK202.out 3
                      have hfz30_4 := blk_frozen BK202.out 4
                      have hfz30_5 := blk_frozen BK202.out 5
                      go_wp2
                      go_ret
                      exact ⟨by first | rfl | (simp [errW_none, errW_some] <;> rfl) | (simp [*, errW_none, errW_some] <;> rfl), by repeat (first | (with_reducible first | exact HB.out | apply below_alloc | apply pw_below_drewN | apply below_drew1 | refine below_set ?_ GE202.out) | exact HB.out)⟩
                    · rw [if_neg c29] at H
                      have c29b0 : decide (15 < t209) = false := decide_eq_false c29
                      clear c29
                      by_cases c31 : a0 = 5
                      · rw [if_pos c31] at H
                        have c31b0 : (a0 == 5) = true := beq_iff_eq.mpr c31
                        have c31b1 : (a0 != 5) = false := bne_eq_false_iff_eq.mpr c31
                        clear c31
                        by_cases c32 : a0 = 0
                        · rw [if_pos c32] at H
                          have c32b0 : (a0 == 0) = true := beq_iff_eq.mpr c32
                          have c32b1 : (a0 != 0) = false := bne_eq_false_iff_eq.mpr c32
                          clear c32
                          by_cases c33 : (!(t205 == 0) || (t206 || (!(t207 == 0) || (!(t208 == 0) || (!(t209 == 0) || (t210)))))) = true
                          · rw [if_pos c33] at H
                            have c33b0 : (!(t205 == 0) || (t206 || (!(t207 == 0) || (!(t208 == 0) || (!(t209 == 0) || (t210)))))) = true := c33
                            clear c33
                            obtain rfl := Option.some.inj H
                            have hcz34_0 : wc.cell? ⟨gb202, 0, none⟩ = some (.int .i64 t205) := (blk_cell BK202.out 0).trans rfl
                            have hcz34_1 : wc.cell? ⟨gb202, 1, none⟩ = some (.bool t206) := (blk_cell BK202.out 1).trans rfl
                            have hcz34_2 : wc.cell? ⟨gb202, 2, none⟩ = some (.int .u8 t207) := (blk_cell BK202.out 2).trans rfl
                            have hcz34_3 : wc.cell? ⟨gb202, 3, none⟩ = some (.int .u8 t208) := (blk_cell BK202.out 3).trans rfl
                            have hcz34_4 : wc.cell? ⟨gb202, 4, none⟩ = some (.int .u8 t209) := (blk_cell BK202.out 4).trans rfl
                            have hcz34_5 : wc.cell? ⟨gb202, 5, none⟩ = some (.bool t210) := (blk_cell BK202.out 5).trans rfl
                            have hfz34_0 := blk_frozen BK202.out 0
                            have hfz34_1 := blk_frozen BK202.out 1
                            have hfz34_2 := blk_frozen BK202.out 2
                            have hfz34_3 := blk_frozen BK202.out 3
                            have hfz34_4 := blk_frozen BK202.out 4
                            have hfz34_5 := blk_frozen BK202.out 5
                            go_wp2
                            go_ret
                            exact ⟨by first | rfl | (simp [errW_none, errW_some] <;> rfl) | (simp [*, errW_none, errW_some] <;> rfl), by repeat (first | (with_reducible first | exact HB.out | apply below_alloc | apply pw_below_drewN | apply below_drew1 | refine below_set ?_ GE202.out) | exact HB.out)⟩
                          · rw [if_neg c33] at H
                            have c33b0 : (!(t205 == 0) || (t206 || (!(t207 == 0) || (!(t208 == 0) || (!(t209 == 0) || (t210)))))) = false := by simpa using c33
                            clear c33
                            replace H := Option.bind_eq_some_iff.mp H
                            obtain ⟨t211, A350, H⟩ := H
                            replace H : (if t211 > x9_12 then (some false) else ((mapper_Bank.f t205 t206 t207 t208 t209 t210 0).bind fun t212 => (if t212 > 96 then (some false) else (whirligiglaw08_MapperKeeps.l0 kj12 a0 l1 t194 (wrap64 (x8_1 + 1)) t205 t206 t207 t208 t209 t210)))) = some r := H
                            have A35 := Aside0.mk A350
                            clear A350
                            by_cases c36 : t211 > x9_12
                            · rw [if_pos c36] at H
                              have c36b0 : decide (x9_12 < t211) = true := decide_eq_true c36
                              clear c36
                              obtain rfl := Option.some.inj H
                              have hcz37_0 : wc.cell? ⟨gb202, 0, none⟩ = some (.int .i64 t205) := (blk_cell BK202.out 0).trans rfl
                              have hcz37_1 : wc.cell? ⟨gb202, 1, none⟩ = some (.bool t206) := (blk_cell BK202.out 1).trans rfl
                              have hcz37_2 : wc.cell? ⟨gb202, 2, none⟩ = some (.int .u8 t207) := (blk_cell BK202.out 2).trans rfl
                              have hcz37_3 : wc.cell? ⟨gb202, 3, none⟩ = some (.int .u8 t208) := (blk_cell BK202.out 3).trans rfl
                              have hcz37_4 : wc.cell? ⟨gb202, 4, none⟩ = some (.int .u8 t209) := (blk_cell BK202.out 4).trans rfl
                              have hcz37_5 : wc.cell? ⟨gb202, 5, none⟩ = some (.bool t210) := (blk_cell BK202.out 5).trans rfl
                              have hfz37_0 := blk_frozen BK202.out 0
                              have hfz37_1 := blk_frozen BK202.out 1
                              have hfz37_2 := blk_frozen BK202.out 2
                              have hfz37_3 := blk_frozen BK202.out 3
                              have hfz37_4 := blk_frozen BK202.out 4
                              have hfz37_5 := blk_frozen BK202.out 5
                              go_wp2_with (first | (go_at_call 15; (with_reducible refine (mapper_Bank.calls t205 t206 t207 t208 t209 t210 16384 t211 _ A35.out).mono ?_); rintro e w38 ⟨rfl, hb⟩; have n0_ := Aside0.mk (blk_below (g := gb202) (o := .cells #[.int .i64 t205, .bool t206, .int .u8 t207, .int .u8 t208, .int .u8 t209, .bool t210] 24 (0, 0)) (by (with_reducible repeat (first | refine blk_drewN ?_ _ | refine blk_drew ?_ | refine blk_alloc ?_ _)); exact BK202.out) hb); have n1_ := Aside0.mk (below_step (by repeat (first | (with_reducible first | exact HB.out | apply below_alloc | apply pw_below_drewN | apply below_drew1 | refine below_set ?_ GE202.out) | exact HB.out)) hb); clear BK202; clear HB; have BK202 := n0_; have HB := n1_; clear n0_ n1_; (try clear hb); (try clear hb2); (try clear hk); (try clear hi)))
                              go_ret
                              exact ⟨by first | rfl | (simp [errW_none, errW_some] <;> rfl) | (simp [*, errW_none, errW_some] <;> rfl), by repeat (first | (with_reducible first | exact HB.out | apply below_alloc | apply pw_below_drewN | apply below_drew1 | refine below_set ?_ GE202.out) | exact HB.out)⟩
                            · rw [if_neg c36] at H
                              have c36b0 : decide (x9_12 < t211) = false := decide_eq_false c36
                              clear c36
                              replace H := Option.bind_eq_some_iff.mp H
                              obtain ⟨t212, A390, H⟩ := H
                              replace H : (if t212 > 96 then (some false) else (whirligiglaw08_MapperKeeps.l0 kj12 a0 l1 t194 (wrap64 (x8_1 + 1)) t205 t206 t207 t208 t209 t210)) = some r := H
                              have A39 := Aside0.mk A390
                              clear A390
                              by_cases c40 : t212 > 96
                              · rw [if_pos c40] at H
                                have c40b0 : decide (96 < t212) = true := decide_eq_true c40
                                clear c40
                                obtain rfl := Option.some.inj H
                                have hcz41_0 : wc.cell? ⟨gb202, 0, none⟩ = some (.int .i64 t205) := (blk_cell BK202.out 0).trans rfl
                                have hcz41_1 : wc.cell? ⟨gb202, 1, none⟩ = some (.bool t206) := (blk_cell BK202.out 1).trans rfl
                                have hcz41_2 : wc.cell? ⟨gb202, 2, none⟩ = some (.int .u8 t207) := (blk_cell BK202.out 2).trans rfl
                                have hcz41_3 : wc.cell? ⟨gb202, 3, none⟩ = some (.int .u8 t208) := (blk_cell BK202.out 3).trans rfl
                                have hcz41_4 : wc.cell? ⟨gb202, 4, none⟩ = some (.int .u8 t209) := (blk_cell BK202.out 4).trans rfl
                                have hcz41_5 : wc.cell? ⟨gb202, 5, none⟩ = some (.bool t210) := (blk_cell BK202.out 5).trans rfl
                                have hfz41_0 := blk_frozen BK202.out 0
                                have hfz41_1 := blk_frozen BK202.out 1
                                have hfz41_2 := blk_frozen BK202.out 2
                                have hfz41_3 := blk_frozen BK202.out 3
                                have hfz41_4 := blk_frozen BK202.out 4
                                have hfz41_5 := blk_frozen BK202.out 5
                                go_wp2_with (first | (go_at_call 15; (with_reducible refine (mapper_Bank.calls t205 t206 t207 t208 t209 t210 16384 t211 _ A35.out).mono ?_); rintro e w42 ⟨rfl, hb⟩; have n0_ := Aside0.mk (blk_below (g := gb202) (o := .cells #[.int .i64 t205, .bool t206, .int .u8 t207, .int .u8 t208, .int .u8 t209, .bool t210] 24 (0, 0)) (by (with_reducible repeat (first | refine blk_drewN ?_ _ | refine blk_drew ?_ | refine blk_alloc ?_ _)); exact BK202.out) hb); have n1_ := Aside0.mk (below_step (by repeat (first | (with_reducible first | exact HB.out | apply below_alloc | apply pw_below_drewN | apply below_drew1 | refine below_set ?_ GE202.out) | exact HB.out)) hb); clear BK202; clear HB; have BK202 := n0_; have HB := n1_; clear n0_ n1_; (try clear hb); (try clear hb2); (try clear hk); (try clear hi); have hcz43_0 : w42.cell? ⟨gb202, 0, none⟩ = some (.int .i64 t205) := (blk_cell BK202.out 0).trans rfl; have hcz43_1 : w42.cell? ⟨gb202, 1, none⟩ = some (.bool t206) := (blk_cell BK202.out 1).trans rfl; have hcz43_2 : w42.cell? ⟨gb202, 2, none⟩ = some (.int .u8 t207) := (blk_cell BK202.out 2).trans rfl; have hcz43_3 : w42.cell? ⟨gb202, 3, none⟩ = some (.int .u8 t208) := (blk_cell BK202.out 3).trans rfl; have hcz43_4 : w42.cell? ⟨gb202, 4, none⟩ = some (.int .u8 t209) := (blk_cell BK202.out 4).trans rfl; have hcz43_5 : w42.cell? ⟨gb202, 5, none⟩ = some (.bool t210) := (blk_cell BK202.out 5).trans rfl; have hfz43_0 := blk_frozen BK202.out 0; have hfz43_1 := blk_frozen BK202.out 1; have hfz43_2 := blk_frozen BK202.out 2; have hfz43_3 := blk_frozen BK202.out 3; have hfz43_4 := blk_frozen BK202.out 4; have hfz43_5 := blk_frozen BK202.out 5) | (go_at_call 15; (with_reducible refine (mapper_Bank.calls t205 t206 t207 t208 t209 t210 0 t212 _ A39.out).mono ?_); rintro e w44 ⟨rfl, hb⟩; have n0_ := Aside0.mk (blk_below (g := gb202) (o := .cells #[.int .i64 t205, .bool t206, .int .u8 t207, .int .u8 t208, .int .u8 t209, .bool t210] 24 (0, 0)) (by (with_reducible repeat (first | refine blk_drewN ?_ _ | refine blk_drew ?_ | refine blk_alloc ?_ _)); exact BK202.out) hb); have n1_ := Aside0.mk (below_step (by repeat (first | (with_reducible first | exact HB.out | apply below_alloc | apply pw_below_drewN | apply below_drew1 | refine below_set ?_ GE202.out) | exact HB.out)) hb); clear BK202; clear HB; have BK202 := n0_; have HB := n1_; clear n0_ n1_; (try clear hb); (try clear hb2); (try clear hk); (try clear hi)))
                                go_ret
                                exact ⟨by first | rfl | (simp [errW_none, errW_some] <;> rfl) | (simp [*, errW_none, errW_some] <;> rfl), by repeat (first | (with_reducible first | exact HB.out | apply below_alloc | apply pw_below_drewN | apply below_drew1 | refine below_set ?_ GE202.out) | exact HB.out)⟩
                              · rw [if_neg c40] at H
                                have c40b0 : decide (96 < t212) = false := decide_eq_false c40
                                clear c40
                                have H' := Aside0.mk H
                                clear H
                                have hcz45_0 : wc.cell? ⟨gb202, 0, none⟩ = some (.int .i64 t205) := (blk_cell BK202.out 0).trans rfl
                                have hcz45_1 : wc.cell? ⟨gb202, 1, none⟩ = some (.bool t206) := (blk_cell BK202.out 1).trans rfl
                                have hcz45_2 : wc.cell? ⟨gb202, 2, none⟩ = some (.int .u8 t207) := (blk_cell BK202.out 2).trans rfl
                                have hcz45_3 : wc.cell? ⟨gb202, 3, none⟩ = some (.int .u8 t208) := (blk_cell BK202.out 3).trans rfl
                                have hcz45_4 : wc.cell? ⟨gb202, 4, none⟩ = some (.int .u8 t209) := (blk_cell BK202.out 4).trans rfl
                                have hcz45_5 : wc.cell? ⟨gb202, 5, none⟩ = some (.bool t210) := (blk_cell BK202.out 5).trans rfl
                                have hfz45_0 := blk_frozen BK202.out 0
                                have hfz45_1 := blk_frozen BK202.out 1
                                have hfz45_2 := blk_frozen BK202.out 2
                                have hfz45_3 := blk_frozen BK202.out 3
                                have hfz45_4 := blk_frozen BK202.out 4
                                have hfz45_5 := blk_frozen BK202.out 5
                                go_wp2_with (first | (go_at_call 15; (with_reducible refine (mapper_Bank.calls t205 t206 t207 t208 t209 t210 16384 t211 _ A35.out).mono ?_); rintro e w46 ⟨rfl, hb⟩; have n0_ := Aside0.mk (blk_below (g := gb202) (o := .cells #[.int .i64 t205, .bool t206, .int .u8 t207, .int .u8 t208, .int .u8 t209, .bool t210] 24 (0, 0)) (by (with_reducible repeat (first | refine blk_drewN ?_ _ | refine blk_drew ?_ | refine blk_alloc ?_ _)); exact BK202.out) hb); have n1_ := Aside0.mk (below_step (by repeat (first | (with_reducible first | exact HB.out | apply below_alloc | apply pw_below_drewN | apply below_drew1 | refine below_set ?_ GE202.out) | exact HB.out)) hb); clear BK202; clear HB; have BK202 := n0_; have HB := n1_; clear n0_ n1_; (try clear hb); (try clear hb2); (try clear hk); (try clear hi); have hcz47_0 : w46.cell? ⟨gb202, 0, none⟩ = some (.int .i64 t205) := (blk_cell BK202.out 0).trans rfl; have hcz47_1 : w46.cell? ⟨gb202, 1, none⟩ = some (.bool t206) := (blk_cell BK202.out 1).trans rfl; have hcz47_2 : w46.cell? ⟨gb202, 2, none⟩ = some (.int .u8 t207) := (blk_cell BK202.out 2).trans rfl; have hcz47_3 : w46.cell? ⟨gb202, 3, none⟩ = some (.int .u8 t208) := (blk_cell BK202.out 3).trans rfl; have hcz47_4 : w46.cell? ⟨gb202, 4, none⟩ = some (.int .u8 t209) := (blk_cell BK202.out 4).trans rfl; have hcz47_5 : w46.cell? ⟨gb202, 5, none⟩ = some (.bool t210) := (blk_cell BK202.out 5).trans rfl; have hfz47_0 := blk_frozen BK202.out 0; have hfz47_1 := blk_frozen BK202.out 1; have hfz47_2 := blk_frozen BK202.out 2; have hfz47_3 := blk_frozen BK202.out 3; have hfz47_4 := blk_frozen BK202.out 4; have hfz47_5 := blk_frozen BK202.out 5) | (go_at_call 15; (with_reducible refine (mapper_Bank.calls t205 t206 t207 t208 t209 t210 0 t212 _ A39.out).mono ?_); rintro e w48 ⟨rfl, hb⟩; have n0_ := Aside0.mk (blk_below (g := gb202) (o := .cells #[.int .i64 t205, .bool t206, .int .u8 t207, .int .u8 t208, .int .u8 t209, .bool t210] 24 (0, 0)) (by (with_reducible repeat (first | refine blk_drewN ?_ _ | refine blk_drew ?_ | refine blk_alloc ?_ _)); exact BK202.out) hb); have n1_ := Aside0.mk (below_step (by repeat (first | (with_reducible first | exact HB.out | apply below_alloc | apply pw_below_drewN | apply below_drew1 | refine below_set ?_ GE202.out) | exact HB.out)) hb); clear BK202; clear HB; have BK202 := n0_; have HB := n1_; clear n0_ n1_; (try clear hb); (try clear hb2); (try clear hk); (try clear hi)))
                                go_roundg kj12
                                case measure => have := HK1.out; have := HJ12.out; omega
                                case rel => exact ⟨(wrap64 (x8_1 + 1)), (t205), (t206), (t207), (t208), (t209), (t210), (by first | rfl | (simp; done) | (simp [*]; done)), H', ⟨by have := HK1.out; have := HJ12.out; omega⟩, ⟨by (with_reducible repeat (first | refine blk_drewN ?_ _ | refine blk_drew ?_ | refine blk_alloc ?_ _)); exact BK202.out⟩, ⟨by repeat (first | (with_reducible first | exact HB.out | apply below_alloc | apply pw_below_drewN | apply below_drew1 | refine below_set ?_ GE202.out) | exact HB.out)⟩⟩
                        · rw [if_neg c32] at H
                          have c32b0 : (a0 == 0) = false := beq_eq_false_iff_ne.mpr c32
                          have c32b1 : (a0 != 0) = true := bne_iff_ne.mpr c32
                          replace H := Option.bind_eq_some_iff.mp H
                          obtain ⟨t213, A490, H⟩ := H
                          replace H : (if t213 > x9_12 then (some false) else ((mapper_Bank.f t205 t206 t207 t208 t209 t210 0).bind fun t214 => (if t214 > 96 then (some false) else (whirligiglaw08_MapperKeeps.l0 kj12 a0 l1 t194 (wrap64 (x8_1 + 1)) t205 t206 t207 t208 t209 t210)))) = some r := H
                          have A49 := Aside0.mk A490
                          clear A490
                          by_cases c50 : t213 > x9_12
                          · rw [if_pos c50] at H
                            have c50b0 : decide (x9_12 < t213) = true := decide_eq_true c50
                            clear c50
                            obtain rfl := Option.some.inj H
                            have hcz51_0 : wc.cell? ⟨gb202, 0, none⟩ = some (.int .i64 t205) := (blk_cell BK202.out 0).trans rfl
                            have hcz51_1 : wc.cell? ⟨gb202, 1, none⟩ = some (.bool t206) := (blk_cell BK202.out 1).trans rfl
                            have hcz51_2 : wc.cell? ⟨gb202, 2, none⟩ = some (.int .u8 t207) := (blk_cell BK202.out 2).trans rfl
                            have hcz51_3 : wc.cell? ⟨gb202, 3, none⟩ = some (.int .u8 t208) := (blk_cell BK202.out 3).trans rfl
                            have hcz51_4 : wc.cell? ⟨gb202, 4, none⟩ = some (.int .u8 t209) := (blk_cell BK202.out 4).trans rfl
                            have hcz51_5 : wc.cell? ⟨gb202, 5, none⟩ = some (.bool t210) := (blk_cell BK202.out 5).trans rfl
                            have hfz51_0 := blk_frozen BK202.out 0
                            have hfz51_1 := blk_frozen BK202.out 1
                            have hfz51_2 := blk_frozen BK202.out 2
                            have hfz51_3 := blk_frozen BK202.out 3
                            have hfz51_4 := blk_frozen BK202.out 4
                            have hfz51_5 := blk_frozen BK202.out 5
                            go_wp2_with (first | (go_at_call 15; (with_reducible refine (mapper_Bank.calls t205 t206 t207 t208 t209 t210 16384 t213 _ A49.out).mono ?_); rintro e w52 ⟨rfl, hb⟩; have n0_ := Aside0.mk (blk_below (g := gb202) (o := .cells #[.int .i64 t205, .bool t206, .int .u8 t207, .int .u8 t208, .int .u8 t209, .bool t210] 24 (0, 0)) (by (with_reducible repeat (first | refine blk_drewN ?_ _ | refine blk_drew ?_ | refine blk_alloc ?_ _)); exact BK202.out) hb); have n1_ := Aside0.mk (below_step (by repeat (first | (with_reducible first | exact HB.out | apply below_alloc | apply pw_below_drewN | apply below_drew1 | refine below_set ?_ GE202.out) | exact HB.out)) hb); clear BK202; clear HB; have BK202 := n0_; have HB := n1_; clear n0_ n1_; (try clear hb); (try clear hb2); (try clear hk); (try clear hi)))
                            go_ret
                            exact ⟨by first | rfl | (simp [errW_none, errW_some] <;> rfl) | (simp [*, errW_none, errW_some] <;> rfl), by repeat (first | (with_reducible first | exact HB.out | apply below_alloc | apply pw_below_drewN | apply below_drew1 | refine below_set ?_ GE202.out) | exact HB.out)⟩
                          · rw [if_neg c50] at H
                            have c50b0 : decide (x9_12 < t213) = false := decide_eq_false c50
                            clear c50
                            replace H := Option.bind_eq_some_iff.mp H
                            obtain ⟨t214, A530, H⟩ := H
                            replace H : (if t214 > 96 then (some false) else (whirligiglaw08_MapperKeeps.l0 kj12 a0 l1 t194 (wrap64 (x8_1 + 1)) t205 t206 t207 t208 t209 t210)) = some r := H
                            have A53 := Aside0.mk A530
                            clear A530
                            by_cases c54 : t214 > 96
                            · rw [if_pos c54] at H
                              have c54b0 : decide (96 < t214) = true := decide_eq_true c54
                              clear c54
                              obtain rfl := Option.some.inj H
                              have hcz55_0 : wc.cell? ⟨gb202, 0, none⟩ = some (.int .i64 t205) := (blk_cell BK202.out 0).trans rfl
                              have hcz55_1 : wc.cell? ⟨gb202, 1, none⟩ = some (.bool t206) := (blk_cell BK202.out 1).trans rfl
                              have hcz55_2 : wc.cell? ⟨gb202, 2, none⟩ = some (.int .u8 t207) := (blk_cell BK202.out 2).trans rfl
                              have hcz55_3 : wc.cell? ⟨gb202, 3, none⟩ = some (.int .u8 t208) := (blk_cell BK202.out 3).trans rfl
                              have hcz55_4 : wc.cell? ⟨gb202, 4, none⟩ = some (.int .u8 t209) := (blk_cell BK202.out 4).trans rfl
                              have hcz55_5 : wc.cell? ⟨gb202, 5, none⟩ = some (.bool t210) := (blk_cell BK202.out 5).trans rfl
                              have hfz55_0 := blk_frozen BK202.out 0
                              have hfz55_1 := blk_frozen BK202.out 1
                              have hfz55_2 := blk_frozen BK202.out 2
                              have hfz55_3 := blk_frozen BK202.out 3
                              have hfz55_4 := blk_frozen BK202.out 4
                              have hfz55_5 := blk_frozen BK202.out 5
                              go_wp2_with (first | (go_at_call 15; (with_reducible refine (mapper_Bank.calls t205 t206 t207 t208 t209 t210 16384 t213 _ A49.out).mono ?_); rintro e w56 ⟨rfl, hb⟩; have n0_ := Aside0.mk (blk_below (g := gb202) (o := .cells #[.int .i64 t205, .bool t206, .int .u8 t207, .int .u8 t208, .int .u8 t209, .bool t210] 24 (0, 0)) (by (with_reducible repeat (first | refine blk_drewN ?_ _ | refine blk_drew ?_ | refine blk_alloc ?_ _)); exact BK202.out) hb); have n1_ := Aside0.mk (below_step (by repeat (first | (with_reducible first | exact HB.out | apply below_alloc | apply pw_below_drewN | apply below_drew1 | refine below_set ?_ GE202.out) | exact HB.out)) hb); clear BK202; clear HB; have BK202 := n0_; have HB := n1_; clear n0_ n1_; (try clear hb); (try clear hb2); (try clear hk); (try clear hi); have hcz57_0 : w56.cell? ⟨gb202, 0, none⟩ = some (.int .i64 t205) := (blk_cell BK202.out 0).trans rfl; have hcz57_1 : w56.cell? ⟨gb202, 1, none⟩ = some (.bool t206) := (blk_cell BK202.out 1).trans rfl; have hcz57_2 : w56.cell? ⟨gb202, 2, none⟩ = some (.int .u8 t207) := (blk_cell BK202.out 2).trans rfl; have hcz57_3 : w56.cell? ⟨gb202, 3, none⟩ = some (.int .u8 t208) := (blk_cell BK202.out 3).trans rfl; have hcz57_4 : w56.cell? ⟨gb202, 4, none⟩ = some (.int .u8 t209) := (blk_cell BK202.out 4).trans rfl; have hcz57_5 : w56.cell? ⟨gb202, 5, none⟩ = some (.bool t210) := (blk_cell BK202.out 5).trans rfl; have hfz57_0 := blk_frozen BK202.out 0; have hfz57_1 := blk_frozen BK202.out 1; have hfz57_2 := blk_frozen BK202.out 2; have hfz57_3 := blk_frozen BK202.out 3; have hfz57_4 := blk_frozen BK202.out 4; have hfz57_5 := blk_frozen BK202.out 5) | (go_at_call 15; (with_reducible refine (mapper_Bank.calls t205 t206 t207 t208 t209 t210 0 t214 _ A53.out).mono ?_); rintro e w58 ⟨rfl, hb⟩; have n0_ := Aside0.mk (blk_below (g := gb202) (o := .cells #[.int .i64 t205, .bool t206, .int .u8 t207, .int .u8 t208, .int .u8 t209, .bool t210] 24 (0, 0)) (by (with_reducible repeat (first | refine blk_drewN ?_ _ | refine blk_drew ?_ | refine blk_alloc ?_ _)); exact BK202.out) hb); have n1_ := Aside0.mk (below_step (by repeat (first | (with_reducible first | exact HB.out | apply below_alloc | apply pw_below_drewN | apply below_drew1 | refine below_set ?_ GE202.out) | exact HB.out)) hb); clear BK202; clear HB; have BK202 := n0_; have HB := n1_; clear n0_ n1_; (try clear hb); (try clear hb2); (try clear hk); (try clear hi)))
                              go_ret
                              exact ⟨by first | rfl | (simp [errW_none, errW_some] <;> rfl) | (simp [*, errW_none, errW_some] <;> rfl), by repeat (first | (with_reducible first | exact HB.out | apply below_alloc | apply pw_below_drewN | apply below_drew1 | refine below_set ?_ GE202.out) | exact HB.out)⟩
                            · rw [if_neg c54] at H
                              have c54b0 : decide (96 < t214) = false := decide_eq_false c54
                              clear c54
                              have H' := Aside0.mk H
                              clear H
                              have hcz59_0 : wc.cell? ⟨gb202, 0, none⟩ = some (.int .i64 t205) := (blk_cell BK202.out 0).trans rfl
                              have hcz59_1 : wc.cell? ⟨gb202, 1, none⟩ = some (.bool t206) := (blk_cell BK202.out 1).trans rfl
                              have hcz59_2 : wc.cell? ⟨gb202, 2, none⟩ = some (.int .u8 t207) := (blk_cell BK202.out 2).trans rfl
                              have hcz59_3 : wc.cell? ⟨gb202, 3, none⟩ = some (.int .u8 t208) := (blk_cell BK202.out 3).trans rfl
                              have hcz59_4 : wc.cell? ⟨gb202, 4, none⟩ = some (.int .u8 t209) := (blk_cell BK202.out 4).trans rfl
                              have hcz59_5 : wc.cell? ⟨gb202, 5, none⟩ = some (.bool t210) := (blk_cell BK202.out 5).trans rfl
                              have hfz59_0 := blk_frozen BK202.out 0
                              have hfz59_1 := blk_frozen BK202.out 1
                              have hfz59_2 := blk_frozen BK202.out 2
                              have hfz59_3 := blk_frozen BK202.out 3
                              have hfz59_4 := blk_frozen BK202.out 4
                              have hfz59_5 := blk_frozen BK202.out 5
                              go_wp2_with (first | (go_at_call 15; (with_reducible refine (mapper_Bank.calls t205 t206 t207 t208 t209 t210 16384 t213 _ A49.out).mono ?_); rintro e w60 ⟨rfl, hb⟩; have n0_ := Aside0.mk (blk_below (g := gb202) (o := .cells #[.int .i64 t205, .bool t206, .int .u8 t207, .int .u8 t208, .int .u8 t209, .bool t210] 24 (0, 0)) (by (with_reducible repeat (first | refine blk_drewN ?_ _ | refine blk_drew ?_ | refine blk_alloc ?_ _)); exact BK202.out) hb); have n1_ := Aside0.mk (below_step (by repeat (first | (with_reducible first | exact HB.out | apply below_alloc | apply pw_below_drewN | apply below_drew1 | refine below_set ?_ GE202.out) | exact HB.out)) hb); clear BK202; clear HB; have BK202 := n0_; have HB := n1_; clear n0_ n1_; (try clear hb); (try clear hb2); (try clear hk); (try clear hi); have hcz61_0 : w60.cell? ⟨gb202, 0, none⟩ = some (.int .i64 t205) := (blk_cell BK202.out 0).trans rfl; have hcz61_1 : w60.cell? ⟨gb202, 1, none⟩ = some (.bool t206) := (blk_cell BK202.out 1).trans rfl; have hcz61_2 : w60.cell? ⟨gb202, 2, none⟩ = some (.int .u8 t207) := (blk_cell BK202.out 2).trans rfl; have hcz61_3 : w60.cell? ⟨gb202, 3, none⟩ = some (.int .u8 t208) := (blk_cell BK202.out 3).trans rfl; have hcz61_4 : w60.cell? ⟨gb202, 4, none⟩ = some (.int .u8 t209) := (blk_cell BK202.out 4).trans rfl; have hcz61_5 : w60.cell? ⟨gb202, 5, none⟩ = some (.bool t210) := (blk_cell BK202.out 5).trans rfl; have hfz61_0 := blk_frozen BK202.out 0; have hfz61_1 := blk_frozen BK202.out 1; have hfz61_2 := blk_frozen BK202.out 2; have hfz61_3 := blk_frozen BK202.out 3; have hfz61_4 := blk_frozen BK202.out 4; have hfz61_5 := blk_frozen BK202.out 5) | (go_at_call 15; (with_reducible refine (mapper_Bank.calls t205 t206 t207 t208 t209 t210 0 t214 _ A53.out).mono ?_); rintro e w62 ⟨rfl, hb⟩; have n0_ := Aside0.mk (blk_below (g := gb202) (o := .cells #[.int .i64 t205, .bool t206, .int .u8 t207, .int .u8 t208, .int .u8 t209, .bool t210] 24 (0, 0)) (by (with_reducible repeat (first | refine blk_drewN ?_ _ | refine blk_drew ?_ | refine blk_alloc ?_ _)); exact BK202.out) hb); have n1_ := Aside0.mk (below_step (by repeat (first | (with_reducible first | exact HB.out | apply below_alloc | apply pw_below_drewN | apply below_drew1 | refine below_set ?_ GE202.out) | exact HB.out)) hb); clear BK202; clear HB; have BK202 := n0_; have HB := n1_; clear n0_ n1_; (try clear hb); (try clear hb2); (try clear hk); (try clear hi)))
                              go_roundg kj12
                              case measure => have := HK1.out; have := HJ12.out; omega
                              case rel => exact ⟨(wrap64 (x8_1 + 1)), (t205), (t206), (t207), (t208), (t209), (t210), (by first | rfl | (simp; done) | (simp [*]; done)), H', ⟨by have := HK1.out; have := HJ12.out; omega⟩, ⟨by (with_reducible repeat (first | refine blk_drewN ?_ _ | refine blk_drew ?_ | refine blk_alloc ?_ _)); exact BK202.out⟩, ⟨by repeat (first | (with_reducible first | exact HB.out | apply below_alloc | apply pw_below_drewN | apply below_drew1 | refine below_set ?_ GE202.out) | exact HB.out)⟩⟩
                      · rw [if_neg c31] at H
                        have c31b0 : (a0 == 5) = false := beq_eq_false_iff_ne.mpr c31
                        have c31b1 : (a0 != 5) = true := bne_iff_ne.mpr c31
                        by_cases c63 : t207 > 127
                        · rw [if_pos c63] at H
                          have c63b0 : decide (127 < t207) = true := decide_eq_true c63
                          clear c63
                          obtain rfl := Option.some.inj H
                          have hcz64_0 : wc.cell? ⟨gb202, 0, none⟩ = some (.int .i64 t205) := (blk_cell BK202.out 0).trans rfl
                          have hcz64_1 : wc.cell? ⟨gb202, 1, none⟩ = some (.bool t206) := (blk_cell BK202.out 1).trans rfl
                          have hcz64_2 : wc.cell? ⟨gb202, 2, none⟩ = some (.int .u8 t207) := (blk_cell BK202.out 2).trans rfl
                          have hcz64_3 : wc.cell? ⟨gb202, 3, none⟩ = some (.int .u8 t208) := (blk_cell BK202.out 3).trans rfl
                          have hcz64_4 : wc.cell? ⟨gb202, 4, none⟩ = some (.int .u8 t209) := (blk_cell BK202.out 4).trans rfl
                          have hcz64_5 : wc.cell? ⟨gb202, 5, none⟩ = some (.bool t210) := (blk_cell BK202.out 5).trans rfl
                          have hfz64_0 := blk_frozen BK202.out 0
                          have hfz64_1 := blk_frozen BK202.out 1
                          have hfz64_2 := blk_frozen BK202.out 2
                          have hfz64_3 := blk_frozen BK202.out 3
                          have hfz64_4 := blk_frozen BK202.out 4
                          have hfz64_5 := blk_frozen BK202.out 5
                          go_wp2
                          go_ret
                          exact ⟨by first | rfl | (simp [errW_none, errW_some] <;> rfl) | (simp [*, errW_none, errW_some] <;> rfl), by repeat (first | (with_reducible first | exact HB.out | apply below_alloc | apply pw_below_drewN | apply below_drew1 | refine below_set ?_ GE202.out) | exact HB.out)⟩
                        · rw [if_neg c63] at H
                          have c63b0 : decide (127 < t207) = false := decide_eq_false c63
                          clear c63
                          by_cases c65 : a0 = 0
                          · rw [if_pos c65] at H
                            have c65b0 : (a0 == 0) = true := beq_iff_eq.mpr c65
                            have c65b1 : (a0 != 0) = false := bne_eq_false_iff_eq.mpr c65
                            clear c65
                            by_cases c66 : (!(t205 == 0) || (t206 || (!(t207 == 0) || (!(t208 == 0) || (!(t209 == 0) || (t210)))))) = true
                            · rw [if_pos c66] at H
                              have c66b0 : (!(t205 == 0) || (t206 || (!(t207 == 0) || (!(t208 == 0) || (!(t209 == 0) || (t210)))))) = true := c66
                              clear c66
                              obtain rfl := Option.some.inj H
                              have hcz67_0 : wc.cell? ⟨gb202, 0, none⟩ = some (.int .i64 t205) := (blk_cell BK202.out 0).trans rfl
                              have hcz67_1 : wc.cell? ⟨gb202, 1, none⟩ = some (.bool t206) := (blk_cell BK202.out 1).trans rfl
                              have hcz67_2 : wc.cell? ⟨gb202, 2, none⟩ = some (.int .u8 t207) := (blk_cell BK202.out 2).trans rfl
                              have hcz67_3 : wc.cell? ⟨gb202, 3, none⟩ = some (.int .u8 t208) := (blk_cell BK202.out 3).trans rfl
                              have hcz67_4 : wc.cell? ⟨gb202, 4, none⟩ = some (.int .u8 t209) := (blk_cell BK202.out 4).trans rfl
                              have hcz67_5 : wc.cell? ⟨gb202, 5, none⟩ = some (.bool t210) := (blk_cell BK202.out 5).trans rfl
                              have hfz67_0 := blk_frozen BK202.out 0
                              have hfz67_1 := blk_frozen BK202.out 1
                              have hfz67_2 := blk_frozen BK202.out 2
                              have hfz67_3 := blk_frozen BK202.out 3
                              have hfz67_4 := blk_frozen BK202.out 4
                              have hfz67_5 := blk_frozen BK202.out 5
                              go_wp2
                              go_ret
                              exact ⟨by first | rfl | (simp [errW_none, errW_some] <;> rfl) | (simp [*, errW_none, errW_some] <;> rfl), by repeat (first | (with_reducible first | exact HB.out | apply below_alloc | apply pw_below_drewN | apply below_drew1 | refine below_set ?_ GE202.out) | exact HB.out)⟩
                            · rw [if_neg c66] at H
                              have c66b0 : (!(t205 == 0) || (t206 || (!(t207 == 0) || (!(t208 == 0) || (!(t209 == 0) || (t210)))))) = false := by simpa using c66
                              clear c66
                              replace H := Option.bind_eq_some_iff.mp H
                              obtain ⟨t215, A680, H⟩ := H
                              replace H : (if t215 > x9_12 then (some false) else ((mapper_Bank.f t205 t206 t207 t208 t209 t210 0).bind fun t216 => (if t216 > 96 then (some false) else ((mapper_Bank.f t205 t206 t207 t208 t209 t210 32767).bind fun t217 => (if t217 = 0 then (some false) else (whirligiglaw08_MapperKeeps.l0 kj12 a0 l1 t194 (wrap64 (x8_1 + 1)) t205 t206 t207 t208 t209 t210)))))) = some r := H
                              have A68 := Aside0.mk A680
                              clear A680
                              by_cases c69 : t215 > x9_12
                              · rw [if_pos c69] at H
                                have c69b0 : decide (x9_12 < t215) = true := decide_eq_true c69
                                clear c69
                                obtain rfl := Option.some.inj H
                                have hcz70_0 : wc.cell? ⟨gb202, 0, none⟩ = some (.int .i64 t205) := (blk_cell BK202.out 0).trans rfl
                                have hcz70_1 : wc.cell? ⟨gb202, 1, none⟩ = some (.bool t206) := (blk_cell BK202.out 1).trans rfl
                                have hcz70_2 : wc.cell? ⟨gb202, 2, none⟩ = some (.int .u8 t207) := (blk_cell BK202.out 2).trans rfl
                                have hcz70_3 : wc.cell? ⟨gb202, 3, none⟩ = some (.int .u8 t208) := (blk_cell BK202.out 3).trans rfl
                                have hcz70_4 : wc.cell? ⟨gb202, 4, none⟩ = some (.int .u8 t209) := (blk_cell BK202.out 4).trans rfl
                                have hcz70_5 : wc.cell? ⟨gb202, 5, none⟩ = some (.bool t210) := (blk_cell BK202.out 5).trans rfl
                                have hfz70_0 := blk_frozen BK202.out 0
                                have hfz70_1 := blk_frozen BK202.out 1
                                have hfz70_2 := blk_frozen BK202.out 2
                                have hfz70_3 := blk_frozen BK202.out 3
                                have hfz70_4 := blk_frozen BK202.out 4
                                have hfz70_5 := blk_frozen BK202.out 5
                                go_wp2_with (first | (go_at_call 15; (with_reducible refine (mapper_Bank.calls t205 t206 t207 t208 t209 t210 16384 t215 _ A68.out).mono ?_); rintro e w71 ⟨rfl, hb⟩; have n0_ := Aside0.mk (blk_below (g := gb202) (o := .cells #[.int .i64 t205, .bool t206, .int .u8 t207, .int .u8 t208, .int .u8 t209, .bool t210] 24 (0, 0)) (by (with_reducible repeat (first | refine blk_drewN ?_ _ | refine blk_drew ?_ | refine blk_alloc ?_ _)); exact BK202.out) hb); have n1_ := Aside0.mk (below_step (by repeat (first | (with_reducible first | exact HB.out | apply below_alloc | apply pw_below_drewN | apply below_drew1 | refine below_set ?_ GE202.out) | exact HB.out)) hb); clear BK202; clear HB; have BK202 := n0_; have HB := n1_; clear n0_ n1_; (try clear hb); (try clear hb2); (try clear hk); (try clear hi)))
                                go_ret
                                exact ⟨by first | rfl | (simp [errW_none, errW_some] <;> rfl) | (simp [*, errW_none, errW_some] <;> rfl), by repeat (first | (with_reducible first | exact HB.out | apply below_alloc | apply pw_below_drewN | apply below_drew1 | refine below_set ?_ GE202.out) | exact HB.out)⟩
                              · rw [if_neg c69] at H
                                have c69b0 : decide (x9_12 < t215) = false := decide_eq_false c69
                                clear c69
                                replace H := Option.bind_eq_some_iff.mp H
                                obtain ⟨t216, A720, H⟩ := H
                                replace H : (if t216 > 96 then (some false) else ((mapper_Bank.f t205 t206 t207 t208 t209 t210 32767).bind fun t217 => (if t217 = 0 then (some false) else (whirligiglaw08_MapperKeeps.l0 kj12 a0 l1 t194 (wrap64 (x8_1 + 1)) t205 t206 t207 t208 t209 t210)))) = some r := H
                                have A72 := Aside0.mk A720
                                clear A720
                                by_cases c73 : t216 > 96
                                · rw [if_pos c73] at H
                                  have c73b0 : decide (96 < t216) = true := decide_eq_true c73
                                  clear c73
                                  obtain rfl := Option.some.inj H
                                  have hcz74_0 : wc.cell? ⟨gb202, 0, none⟩ = some (.int .i64 t205) := (blk_cell BK202.out 0).trans rfl
                                  have hcz74_1 : wc.cell? ⟨gb202, 1, none⟩ = some (.bool t206) := (blk_cell BK202.out 1).trans rfl
                                  have hcz74_2 : wc.cell? ⟨gb202, 2, none⟩ = some (.int .u8 t207) := (blk_cell BK202.out 2).trans rfl
                                  have hcz74_3 : wc.cell? ⟨gb202, 3, none⟩ = some (.int .u8 t208) := (blk_cell BK202.out 3).trans rfl
                                  have hcz74_4 : wc.cell? ⟨gb202, 4, none⟩ = some (.int .u8 t209) := (blk_cell BK202.out 4).trans rfl
                                  have hcz74_5 : wc.cell? ⟨gb202, 5, none⟩ = some (.bool t210) := (blk_cell BK202.out 5).trans rfl
                                  have hfz74_0 := blk_frozen BK202.out 0
                                  have hfz74_1 := blk_frozen BK202.out 1
                                  have hfz74_2 := blk_frozen BK202.out 2
                                  have hfz74_3 := blk_frozen BK202.out 3
                                  have hfz74_4 := blk_frozen BK202.out 4
                                  have hfz74_5 := blk_frozen BK202.out 5
                                  go_wp2_with (first | (go_at_call 15; (with_reducible refine (mapper_Bank.calls t205 t206 t207 t208 t209 t210 16384 t215 _ A68.out).mono ?_); rintro e w75 ⟨rfl, hb⟩; have n0_ := Aside0.mk (blk_below (g := gb202) (o := .cells #[.int .i64 t205, .bool t206, .int .u8 t207, .int .u8 t208, .int .u8 t209, .bool t210] 24 (0, 0)) (by (with_reducible repeat (first | refine blk_drewN ?_ _ | refine blk_drew ?_ | refine blk_alloc ?_ _)); exact BK202.out) hb); have n1_ := Aside0.mk (below_step (by repeat (first | (with_reducible first | exact HB.out | apply below_alloc | apply pw_below_drewN | apply below_drew1 | refine below_set ?_ GE202.out) | exact HB.out)) hb); clear BK202; clear HB; have BK202 := n0_; have HB := n1_; clear n0_ n1_; (try clear hb); (try clear hb2); (try clear hk); (try clear hi); have hcz76_0 : w75.cell? ⟨gb202, 0, none⟩ = some (.int .i64 t205) := (blk_cell BK202.out 0).trans rfl; have hcz76_1 : w75.cell? ⟨gb202, 1, none⟩ = some (.bool t206) := (blk_cell BK202.out 1).trans rfl; have hcz76_2 : w75.cell? ⟨gb202, 2, none⟩ = some (.int .u8 t207) := (blk_cell BK202.out 2).trans rfl; have hcz76_3 : w75.cell? ⟨gb202, 3, none⟩ = some (.int .u8 t208) := (blk_cell BK202.out 3).trans rfl; have hcz76_4 : w75.cell? ⟨gb202, 4, none⟩ = some (.int .u8 t209) := (blk_cell BK202.out 4).trans rfl; have hcz76_5 : w75.cell? ⟨gb202, 5, none⟩ = some (.bool t210) := (blk_cell BK202.out 5).trans rfl; have hfz76_0 := blk_frozen BK202.out 0; have hfz76_1 := blk_frozen BK202.out 1; have hfz76_2 := blk_frozen BK202.out 2; have hfz76_3 := blk_frozen BK202.out 3; have hfz76_4 := blk_frozen BK202.out 4; have hfz76_5 := blk_frozen BK202.out 5) | (go_at_call 15; (with_reducible refine (mapper_Bank.calls t205 t206 t207 t208 t209 t210 0 t216 _ A72.out).mono ?_); rintro e w77 ⟨rfl, hb⟩; have n0_ := Aside0.mk (blk_below (g := gb202) (o := .cells #[.int .i64 t205, .bool t206, .int .u8 t207, .int .u8 t208, .int .u8 t209, .bool t210] 24 (0, 0)) (by (with_reducible repeat (first | refine blk_drewN ?_ _ | refine blk_drew ?_ | refine blk_alloc ?_ _)); exact BK202.out) hb); have n1_ := Aside0.mk (below_step (by repeat (first | (with_reducible first | exact HB.out | apply below_alloc | apply pw_below_drewN | apply below_drew1 | refine below_set ?_ GE202.out) | exact HB.out)) hb); clear BK202; clear HB; have BK202 := n0_; have HB := n1_; clear n0_ n1_; (try clear hb); (try clear hb2); (try clear hk); (try clear hi)))
                                  go_ret
                                  exact ⟨by first | rfl | (simp [errW_none, errW_some] <;> rfl) | (simp [*, errW_none, errW_some] <;> rfl), by repeat (first | (with_reducible first | exact HB.out | apply below_alloc | apply pw_below_drewN | apply below_drew1 | refine below_set ?_ GE202.out) | exact HB.out)⟩
                                · rw [if_neg c73] at H
                                  have c73b0 : decide (96 < t216) = false := decide_eq_false c73
                                  clear c73
                                  replace H := Option.bind_eq_some_iff.mp H
                                  obtain ⟨t217, A780, H⟩ := H
                                  replace H : (if t217 = 0 then (some false) else (whirligiglaw08_MapperKeeps.l0 kj12 a0 l1 t194 (wrap64 (x8_1 + 1)) t205 t206 t207 t208 t209 t210)) = some r := H
                                  have A78 := Aside0.mk A780
                                  clear A780
                                  by_cases c79 : t217 = 0
                                  · rw [if_pos c79] at H
                                    have c79b0 : (t217 == 0) = true := beq_iff_eq.mpr c79
                                    have c79b1 : (t217 != 0) = false := bne_eq_false_iff_eq.mpr c79
                                    clear c79
                                    obtain rfl := Option.some.inj H
                                    have hcz80_0 : wc.cell? ⟨gb202, 0, none⟩ = some (.int .i64 t205) := (blk_cell BK202.out 0).trans rfl
                                    have hcz80_1 : wc.cell? ⟨gb202, 1, none⟩ = some (.bool t206) := (blk_cell BK202.out 1).trans rfl
                                    have hcz80_2 : wc.cell? ⟨gb202, 2, none⟩ = some (.int .u8 t207) := (blk_cell BK202.out 2).trans rfl
                                    have hcz80_3 : wc.cell? ⟨gb202, 3, none⟩ = some (.int .u8 t208) := (blk_cell BK202.out 3).trans rfl
                                    have hcz80_4 : wc.cell? ⟨gb202, 4, none⟩ = some (.int .u8 t209) := (blk_cell BK202.out 4).trans rfl
                                    have hcz80_5 : wc.cell? ⟨gb202, 5, none⟩ = some (.bool t210) := (blk_cell BK202.out 5).trans rfl
                                    have hfz80_0 := blk_frozen BK202.out 0
                                    have hfz80_1 := blk_frozen BK202.out 1
                                    have hfz80_2 := blk_frozen BK202.out 2
                                    have hfz80_3 := blk_frozen BK202.out 3
                                    have hfz80_4 := blk_frozen BK202.out 4
                                    have hfz80_5 := blk_frozen BK202.out 5
                                    go_wp2_with (first | (go_at_call 15; (with_reducible refine (mapper_Bank.calls t205 t206 t207 t208 t209 t210 16384 t215 _ A68.out).mono ?_); rintro e w81 ⟨rfl, hb⟩; have n0_ := Aside0.mk (blk_below (g := gb202) (o := .cells #[.int .i64 t205, .bool t206, .int .u8 t207, .int .u8 t208, .int .u8 t209, .bool t210] 24 (0, 0)) (by (with_reducible repeat (first | refine blk_drewN ?_ _ | refine blk_drew ?_ | refine blk_alloc ?_ _)); exact BK202.out) hb); have n1_ := Aside0.mk (below_step (by repeat (first | (with_reducible first | exact HB.out | apply below_alloc | apply pw_below_drewN | apply below_drew1 | refine below_set ?_ GE202.out) | exact HB.out)) hb); clear BK202; clear HB; have BK202 := n0_; have HB := n1_; clear n0_ n1_; (try clear hb); (try clear hb2); (try clear hk); (try clear hi); have hcz82_0 : w81.cell? ⟨gb202, 0, none⟩ = some (.int .i64 t205) := (blk_cell BK202.out 0).trans rfl; have hcz82_1 : w81.cell? ⟨gb202, 1, none⟩ = some (.bool t206) := (blk_cell BK202.out 1).trans rfl; have hcz82_2 : w81.cell? ⟨gb202, 2, none⟩ = some (.int .u8 t207) := (blk_cell BK202.out 2).trans rfl; have hcz82_3 : w81.cell? ⟨gb202, 3, none⟩ = some (.int .u8 t208) := (blk_cell BK202.out 3).trans rfl; have hcz82_4 : w81.cell? ⟨gb202, 4, none⟩ = some (.int .u8 t209) := (blk_cell BK202.out 4).trans rfl; have hcz82_5 : w81.cell? ⟨gb202, 5, none⟩ = some (.bool t210) := (blk_cell BK202.out 5).trans rfl; have hfz82_0 := blk_frozen BK202.out 0; have hfz82_1 := blk_frozen BK202.out 1; have hfz82_2 := blk_frozen BK202.out 2; have hfz82_3 := blk_frozen BK202.out 3; have hfz82_4 := blk_frozen BK202.out 4; have hfz82_5 := blk_frozen BK202.out 5) | (go_at_call 15; (with_reducible refine (mapper_Bank.calls t205 t206 t207 t208 t209 t210 0 t216 _ A72.out).mono ?_); rintro e w83 ⟨rfl, hb⟩; have n0_ := Aside0.mk (blk_below (g := gb202) (o := .cells #[.int .i64 t205, .bool t206, .int .u8 t207, .int .u8 t208, .int .u8 t209, .bool t210] 24 (0, 0)) (by (with_reducible repeat (first | refine blk_drewN ?_ _ | refine blk_drew ?_ | refine blk_alloc ?_ _)); exact BK202.out) hb); have n1_ := Aside0.mk (below_step (by repeat (first | (with_reducible first | exact HB.out | apply below_alloc | apply pw_below_drewN | apply below_drew1 | refine below_set ?_ GE202.out) | exact HB.out)) hb); clear BK202; clear HB; have BK202 := n0_; have HB := n1_; clear n0_ n1_; (try clear hb); (try clear hb2); (try clear hk); (try clear hi); have hcz84_0 : w83.cell? ⟨gb202, 0, none⟩ = some (.int .i64 t205) := (blk_cell BK202.out 0).trans rfl; have hcz84_1 : w83.cell? ⟨gb202, 1, none⟩ = some (.bool t206) := (blk_cell BK202.out 1).trans rfl; have hcz84_2 : w83.cell? ⟨gb202, 2, none⟩ = some (.int .u8 t207) := (blk_cell BK202.out 2).trans rfl; have hcz84_3 : w83.cell? ⟨gb202, 3, none⟩ = some (.int .u8 t208) := (blk_cell BK202.out 3).trans rfl; have hcz84_4 : w83.cell? ⟨gb202, 4, none⟩ = some (.int .u8 t209) := (blk_cell BK202.out 4).trans rfl; have hcz84_5 : w83.cell? ⟨gb202, 5, none⟩ = some (.bool t210) := (blk_cell BK202.out 5).trans rfl; have hfz84_0 := blk_frozen BK202.out 0; have hfz84_1 := blk_frozen BK202.out 1; have hfz84_2 := blk_frozen BK202.out 2; have hfz84_3 := blk_frozen BK202.out 3; have hfz84_4 := blk_frozen BK202.out 4; have hfz84_5 := blk_frozen BK202.out 5) | (go_at_call 15; (with_reducible refine (mapper_Bank.calls t205 t206 t207 t208 t209 t210 32767 t217 _ A78.out).mono ?_); rintro e w85 ⟨rfl, hb⟩; have n0_ := Aside0.mk (blk_below (g := gb202) (o := .cells #[.int .i64 t205, .bool t206, .int .u8 t207, .int .u8 t208, .int .u8 t209, .bool t210] 24 (0, 0)) (by (with_reducible repeat (first | refine blk_drewN ?_ _ | refine blk_drew ?_ | refine blk_alloc ?_ _)); exact BK202.out) hb); have n1_ := Aside0.mk (below_step (by repeat (first | (with_reducible first | exact HB.out | apply below_alloc | apply pw_below_drewN | apply below_drew1 | refine below_set ?_ GE202.out) | exact HB.out)) hb); clear BK202; clear HB; have BK202 := n0_; have HB := n1_; clear n0_ n1_; (try clear hb); (try clear hb2); (try clear hk); (try clear hi)))
                                    go_ret
                                    exact ⟨by first | rfl | (simp [errW_none, errW_some] <;> rfl) | (simp [*, errW_none, errW_some] <;> rfl), by repeat (first | (with_reducible first | exact HB.out | apply below_alloc | apply pw_below_drewN | apply below_drew1 | refine below_set ?_ GE202.out) | exact HB.out)⟩
                                  · rw [if_neg c79] at H
                                    have c79b0 : (t217 == 0) = false := beq_eq_false_iff_ne.mpr c79
                                    have c79b1 : (t217 != 0) = true := bne_iff_ne.mpr c79
                                    have H' := Aside0.mk H
                                    clear H
                                    have hcz86_0 : wc.cell? ⟨gb202, 0, none⟩ = some (.int .i64 t205) := (blk_cell BK202.out 0).trans rfl
                                    have hcz86_1 : wc.cell? ⟨gb202, 1, none⟩ = some (.bool t206) := (blk_cell BK202.out 1).trans rfl
                                    have hcz86_2 : wc.cell? ⟨gb202, 2, none⟩ = some (.int .u8 t207) := (blk_cell BK202.out 2).trans rfl
                                    have hcz86_3 : wc.cell? ⟨gb202, 3, none⟩ = some (.int .u8 t208) := (blk_cell BK202.out 3).trans rfl
                                    have hcz86_4 : wc.cell? ⟨gb202, 4, none⟩ = some (.int .u8 t209) := (blk_cell BK202.out 4).trans rfl
                                    have hcz86_5 : wc.cell? ⟨gb202, 5, none⟩ = some (.bool t210) := (blk_cell BK202.out 5).trans rfl
                                    have hfz86_0 := blk_frozen BK202.out 0
                                    have hfz86_1 := blk_frozen BK202.out 1
                                    have hfz86_2 := blk_frozen BK202.out 2
                                    have hfz86_3 := blk_frozen BK202.out 3
                                    have hfz86_4 := blk_frozen BK202.out 4
                                    have hfz86_5 := blk_frozen BK202.out 5
                                    go_wp2_with (first | (go_at_call 15; (with_reducible refine (mapper_Bank.calls t205 t206 t207 t208 t209 t210 16384 t215 _ A68.out).mono ?_); rintro e w87 ⟨rfl, hb⟩; have n0_ := Aside0.mk (blk_below (g := gb202) (o := .cells #[.int .i64 t205, .bool t206, .int .u8 t207, .int .u8 t208, .int .u8 t209, .bool t210] 24 (0, 0)) (by (with_reducible repeat (first | refine blk_drewN ?_ _ | refine blk_drew ?_ | refine blk_alloc ?_ _)); exact BK202.out) hb); have n1_ := Aside0.mk (below_step (by repeat (first | (with_reducible first | exact HB.out | apply below_alloc | apply pw_below_drewN | apply below_drew1 | refine below_set ?_ GE202.out) | exact HB.out)) hb); clear BK202; clear HB; have BK202 := n0_; have HB := n1_; clear n0_ n1_; (try clear hb); (try clear hb2); (try clear hk); (try clear hi); have hcz88_0 : w87.cell? ⟨gb202, 0, none⟩ = some (.int .i64 t205) := (blk_cell BK202.out 0).trans rfl; have hcz88_1 : w87.cell? ⟨gb202, 1, none⟩ = some (.bool t206) := (blk_cell BK202.out 1).trans rfl; have hcz88_2 : w87.cell? ⟨gb202, 2, none⟩ = some (.int .u8 t207) := (blk_cell BK202.out 2).trans rfl; have hcz88_3 : w87.cell? ⟨gb202, 3, none⟩ = some (.int .u8 t208) := (blk_cell BK202.out 3).trans rfl; have hcz88_4 : w87.cell? ⟨gb202, 4, none⟩ = some (.int .u8 t209) := (blk_cell BK202.out 4).trans rfl; have hcz88_5 : w87.cell? ⟨gb202, 5, none⟩ = some (.bool t210) := (blk_cell BK202.out 5).trans rfl; have hfz88_0 := blk_frozen BK202.out 0; have hfz88_1 := blk_frozen BK202.out 1; have hfz88_2 := blk_frozen BK202.out 2; have hfz88_3 := blk_frozen BK202.out 3; have hfz88_4 := blk_frozen BK202.out 4; have hfz88_5 := blk_frozen BK202.out 5) | (go_at_call 15; (with_reducible refine (mapper_Bank.calls t205 t206 t207 t208 t209 t210 0 t216 _ A72.out).mono ?_); rintro e w89 ⟨rfl, hb⟩; have n0_ := Aside0.mk (blk_below (g := gb202) (o := .cells #[.int .i64 t205, .bool t206, .int .u8 t207, .int .u8 t208, .int .u8 t209, .bool t210] 24 (0, 0)) (by (with_reducible repeat (first | refine blk_drewN ?_ _ | refine blk_drew ?_ | refine blk_alloc ?_ _)); exact BK202.out) hb); have n1_ := Aside0.mk (below_step (by repeat (first | (with_reducible first | exact HB.out | apply below_alloc | apply pw_below_drewN | apply below_drew1 | refine below_set ?_ GE202.out) | exact HB.out)) hb); clear BK202; clear HB; have BK202 := n0_; have HB := n1_; clear n0_ n1_; (try clear hb); (try clear hb2); (try clear hk); (try clear hi); have hcz90_0 : w89.cell? ⟨gb202, 0, none⟩ = some (.int .i64 t205) := (blk_cell BK202.out 0).trans rfl; have hcz90_1 : w89.cell? ⟨gb202, 1, none⟩ = some (.bool t206) := (blk_cell BK202.out 1).trans rfl; have hcz90_2 : w89.cell? ⟨gb202, 2, none⟩ = some (.int .u8 t207) := (blk_cell BK202.out 2).trans rfl; have hcz90_3 : w89.cell? ⟨gb202, 3, none⟩ = some (.int .u8 t208) := (blk_cell BK202.out 3).trans rfl; have hcz90_4 : w89.cell? ⟨gb202, 4, none⟩ = some (.int .u8 t209) := (blk_cell BK202.out 4).trans rfl; have hcz90_5 : w89.cell? ⟨gb202, 5, none⟩ = some (.bool t210) := (blk_cell BK202.out 5).trans rfl; have hfz90_0 := blk_frozen BK202.out 0; have hfz90_1 := blk_frozen BK202.out 1; have hfz90_2 := blk_frozen BK202.out 2; have hfz90_3 := blk_frozen BK202.out 3; have hfz90_4 := blk_frozen BK202.out 4; have hfz90_5 := blk_frozen BK202.out 5) | (go_at_call 15; (with_reducible refine (mapper_Bank.calls t205 t206 t207 t208 t209 t210 32767 t217 _ A78.out).mono ?_); rintro e w91 ⟨rfl, hb⟩; have n0_ := Aside0.mk (blk_below (g := gb202) (o := .cells #[.int .i64 t205, .bool t206, .int .u8 t207, .int .u8 t208, .int .u8 t209, .bool t210] 24 (0, 0)) (by (with_reducible repeat (first | refine blk_drewN ?_ _ | refine blk_drew ?_ | refine blk_alloc ?_ _)); exact BK202.out) hb); have n1_ := Aside0.mk (below_step (by repeat (first | (with_reducible first | exact HB.out | apply below_alloc | apply pw_below_drewN | apply below_drew1 | refine below_set ?_ GE202.out) | exact HB.out)) hb); clear BK202; clear HB; have BK202 := n0_; have HB := n1_; clear n0_ n1_; (try clear hb); (try clear hb2); (try clear hk); (try clear hi)))
                                    go_roundg kj12
                                    case measure => have := HK1.out; have := HJ12.out; omega
                                    case rel => exact ⟨(wrap64 (x8_1 + 1)), (t205), (t206), (t207), (t208), (t209), (t210), (by first | rfl | (simp; done) | (simp [*]; done)), H', ⟨by have := HK1.out; have := HJ12.out; omega⟩, ⟨by (with_reducible repeat (first | refine blk_drewN ?_ _ | refine blk_drew ?_ | refine blk_alloc ?_ _)); exact BK202.out⟩, ⟨by repeat (first | (with_reducible first | exact HB.out | apply below_alloc | apply pw_below_drewN | apply below_drew1 | refine below_set ?_ GE202.out) | exact HB.out)⟩⟩
                          · rw [if_neg c65] at H
                            have c65b0 : (a0 == 0) = false := beq_eq_false_iff_ne.mpr c65
                            have c65b1 : (a0 != 0) = true := bne_iff_ne.mpr c65
                            replace H := Option.bind_eq_some_iff.mp H
                            obtain ⟨t218, A920, H⟩ := H
                            replace H : (if t218 > x9_12 then (some false) else ((mapper_Bank.f t205 t206 t207 t208 t209 t210 0).bind fun t219 => (if t219 > 96 then (some false) else ((mapper_Bank.f t205 t206 t207 t208 t209 t210 32767).bind fun t220 => (if t220 = 0 then (some false) else (whirligiglaw08_MapperKeeps.l0 kj12 a0 l1 t194 (wrap64 (x8_1 + 1)) t205 t206 t207 t208 t209 t210)))))) = some r := H
                            have A92 := Aside0.mk A920
                            clear A920
                            by_cases c93 : t218 > x9_12
                            · rw [if_pos c93] at H
                              have c93b0 : decide (x9_12 < t218) = true := decide_eq_true c93
                              clear c93
                              obtain rfl := Option.some.inj H
                              have hcz94_0 : wc.cell? ⟨gb202, 0, none⟩ = some (.int .i64 t205) := (blk_cell BK202.out 0).trans rfl
                              have hcz94_1 : wc.cell? ⟨gb202, 1, none⟩ = some (.bool t206) := (blk_cell BK202.out 1).trans rfl
                              have hcz94_2 : wc.cell? ⟨gb202, 2, none⟩ = some (.int .u8 t207) := (blk_cell BK202.out 2).trans rfl
                              have hcz94_3 : wc.cell? ⟨gb202, 3, none⟩ = some (.int .u8 t208) := (blk_cell BK202.out 3).trans rfl
                              have hcz94_4 : wc.cell? ⟨gb202, 4, none⟩ = some (.int .u8 t209) := (blk_cell BK202.out 4).trans rfl
                              have hcz94_5 : wc.cell? ⟨gb202, 5, none⟩ = some (.bool t210) := (blk_cell BK202.out 5).trans rfl
                              have hfz94_0 := blk_frozen BK202.out 0
                              have hfz94_1 := blk_frozen BK202.out 1
                              have hfz94_2 := blk_frozen BK202.out 2
                              have hfz94_3 := blk_frozen BK202.out 3
                              have hfz94_4 := blk_frozen BK202.out 4
                              have hfz94_5 := blk_frozen BK202.out 5
                              go_wp2_with (first | (go_at_call 15; (with_reducible refine (mapper_Bank.calls t205 t206 t207 t208 t209 t210 16384 t218 _ A92.out).mono ?_); rintro e w95 ⟨rfl, hb⟩; have n0_ := Aside0.mk (blk_below (g := gb202) (o := .cells #[.int .i64 t205, .bool t206, .int .u8 t207, .int .u8 t208, .int .u8 t209, .bool t210] 24 (0, 0)) (by (with_reducible repeat (first | refine blk_drewN ?_ _ | refine blk_drew ?_ | refine blk_alloc ?_ _)); exact BK202.out) hb); have n1_ := Aside0.mk (below_step (by repeat (first | (with_reducible first | exact HB.out | apply below_alloc | apply pw_below_drewN | apply below_drew1 | refine below_set ?_ GE202.out) | exact HB.out)) hb); clear BK202; clear HB; have BK202 := n0_; have HB := n1_; clear n0_ n1_; (try clear hb); (try clear hb2); (try clear hk); (try clear hi)))
                              go_ret
                              exact ⟨by first | rfl | (simp [errW_none, errW_some] <;> rfl) | (simp [*, errW_none, errW_some] <;> rfl), by repeat (first | (with_reducible first | exact HB.out | apply below_alloc | apply pw_below_drewN | apply below_drew1 | refine below_set ?_ GE202.out) | exact HB.out)⟩
                            · rw [if_neg c93] at H
                              have c93b0 : decide (x9_12 < t218) = false := decide_eq_false c93
                              clear c93
                              replace H := Option.bind_eq_some_iff.mp H
                              obtain ⟨t219, A960, H⟩ := H
                              replace H : (if t219 > 96 then (some false) else ((mapper_Bank.f t205 t206 t207 t208 t209 t210 32767).bind fun t220 => (if t220 = 0 then (some false) else (whirligiglaw08_MapperKeeps.l0 kj12 a0 l1 t194 (wrap64 (x8_1 + 1)) t205 t206 t207 t208 t209 t210)))) = some r := H
                              have A96 := Aside0.mk A960
                              clear A960
                              by_cases c97 : t219 > 96
                              · rw [if_pos c97] at H
                                have c97b0 : decide (96 < t219) = true := decide_eq_true c97
                                clear c97
                                obtain rfl := Option.some.inj H
                                have hcz98_0 : wc.cell? ⟨gb202, 0, none⟩ = some (.int .i64 t205) := (blk_cell BK202.out 0).trans rfl
                                have hcz98_1 : wc.cell? ⟨gb202, 1, none⟩ = some (.bool t206) := (blk_cell BK202.out 1).trans rfl
                                have hcz98_2 : wc.cell? ⟨gb202, 2, none⟩ = some (.int .u8 t207) := (blk_cell BK202.out 2).trans rfl
                                have hcz98_3 : wc.cell? ⟨gb202, 3, none⟩ = some (.int .u8 t208) := (blk_cell BK202.out 3).trans rfl
                                have hcz98_4 : wc.cell? ⟨gb202, 4, none⟩ = some (.int .u8 t209) := (blk_cell BK202.out 4).trans rfl
                                have hcz98_5 : wc.cell? ⟨gb202, 5, none⟩ = some (.bool t210) := (blk_cell BK202.out 5).trans rfl
                                have hfz98_0 := blk_frozen BK202.out 0
                                have hfz98_1 := blk_frozen BK202.out 1
                                have hfz98_2 := blk_frozen BK202.out 2
                                have hfz98_3 := blk_frozen BK202.out 3
                                have hfz98_4 := blk_frozen BK202.out 4
                                have hfz98_5 := blk_frozen BK202.out 5
                                go_wp2_with (first | (go_at_call 15; (with_reducible refine (mapper_Bank.calls t205 t206 t207 t208 t209 t210 16384 t218 _ A92.out).mono ?_); rintro e w99 ⟨rfl, hb⟩; have n0_ := Aside0.mk (blk_below (g := gb202) (o := .cells #[.int .i64 t205, .bool t206, .int .u8 t207, .int .u8 t208, .int .u8 t209, .bool t210] 24 (0, 0)) (by (with_reducible repeat (first | refine blk_drewN ?_ _ | refine blk_drew ?_ | refine blk_alloc ?_ _)); exact BK202.out) hb); have n1_ := Aside0.mk (below_step (by repeat (first | (with_reducible first | exact HB.out | apply below_alloc | apply pw_below_drewN | apply below_drew1 | refine below_set ?_ GE202.out) | exact HB.out)) hb); clear BK202; clear HB; have BK202 := n0_; have HB := n1_; clear n0_ n1_; (try clear hb); (try clear hb2); (try clear hk); (try clear hi); have hcz100_0 : w99.cell? ⟨gb202, 0, none⟩ = some (.int .i64 t205) := (blk_cell BK202.out 0).trans rfl; have hcz100_1 : w99.cell? ⟨gb202, 1, none⟩ = some (.bool t206) := (blk_cell BK202.out 1).trans rfl; have hcz100_2 : w99.cell? ⟨gb202, 2, none⟩ = some (.int .u8 t207) := (blk_cell BK202.out 2).trans rfl; have hcz100_3 : w99.cell? ⟨gb202, 3, none⟩ = some (.int .u8 t208) := (blk_cell BK202.out 3).trans rfl; have hcz100_4 : w99.cell? ⟨gb202, 4, none⟩ = some (.int .u8 t209) := (blk_cell BK202.out 4).trans rfl; have hcz100_5 : w99.cell? ⟨gb202, 5, none⟩ = some (.bool t210) := (blk_cell BK202.out 5).trans rfl; have hfz100_0 := blk_frozen BK202.out 0; have hfz100_1 := blk_frozen BK202.out 1; have hfz100_2 := blk_frozen BK202.out 2; have hfz100_3 := blk_frozen BK202.out 3; have hfz100_4 := blk_frozen BK202.out 4; have hfz100_5 := blk_frozen BK202.out 5) | (go_at_call 15; (with_reducible refine (mapper_Bank.calls t205 t206 t207 t208 t209 t210 0 t219 _ A96.out).mono ?_); rintro e w101 ⟨rfl, hb⟩; have n0_ := Aside0.mk (blk_below (g := gb202) (o := .cells #[.int .i64 t205, .bool t206, .int .u8 t207, .int .u8 t208, .int .u8 t209, .bool t210] 24 (0, 0)) (by (with_reducible repeat (first | refine blk_drewN ?_ _ | refine blk_drew ?_ | refine blk_alloc ?_ _)); exact BK202.out) hb); have n1_ := Aside0.mk (below_step (by repeat (first | (with_reducible first | exact HB.out | apply below_alloc | apply pw_below_drewN | apply below_drew1 | refine below_set ?_ GE202.out) | exact HB.out)) hb); clear BK202; clear HB; have BK202 := n0_; have HB := n1_; clear n0_ n1_; (try clear hb); (try clear hb2); (try clear hk); (try clear hi)))
                                go_ret
                                exact ⟨by first | rfl | (simp [errW_none, errW_some] <;> rfl) | (simp [*, errW_none, errW_some] <;> rfl), by repeat (first | (with_reducible first | exact HB.out | apply below_alloc | apply pw_below_drewN | apply below_drew1 | refine below_set ?_ GE202.out) | exact HB.out)⟩
                              · rw [if_neg c97] at H
                                have c97b0 : decide (96 < t219) = false := decide_eq_false c97
                                clear c97
                                replace H := Option.bind_eq_some_iff.mp H
                                obtain ⟨t220, A1020, H⟩ := H
                                replace H : (if t220 = 0 then (some false) else (whirligiglaw08_MapperKeeps.l0 kj12 a0 l1 t194 (wrap64 (x8_1 + 1)) t205 t206 t207 t208 t209 t210)) = some r := H
                                have A102 := Aside0.mk A1020
                                clear A1020
                                by_cases c103 : t220 = 0
                                · rw [if_pos c103] at H
                                  have c103b0 : (t220 == 0) = true := beq_iff_eq.mpr c103
                                  have c103b1 : (t220 != 0) = false := bne_eq_false_iff_eq.mpr c103
                                  clear c103
                                  obtain rfl := Option.some.inj H
                                  have hcz104_0 : wc.cell? ⟨gb202, 0, none⟩ = some (.int .i64 t205) := (blk_cell BK202.out 0).trans rfl
                                  have hcz104_1 : wc.cell? ⟨gb202, 1, none⟩ = some (.bool t206) := (blk_cell BK202.out 1).trans rfl
                                  have hcz104_2 : wc.cell? ⟨gb202, 2, none⟩ = some (.int .u8 t207) := (blk_cell BK202.out 2).trans rfl
                                  have hcz104_3 : wc.cell? ⟨gb202, 3, none⟩ = some (.int .u8 t208) := (blk_cell BK202.out 3).trans rfl
                                  have hcz104_4 : wc.cell? ⟨gb202, 4, none⟩ = some (.int .u8 t209) := (blk_cell BK202.out 4).trans rfl
                                  have hcz104_5 : wc.cell? ⟨gb202, 5, none⟩ = some (.bool t210) := (blk_cell BK202.out 5).trans rfl
                                  have hfz104_0 := blk_frozen BK202.out 0
                                  have hfz104_1 := blk_frozen BK202.out 1
                                  have hfz104_2 := blk_frozen BK202.out 2
                                  have hfz104_3 := blk_frozen BK202.out 3
                                  have hfz104_4 := blk_frozen BK202.out 4
                                  have hfz104_5 := blk_frozen BK202.out 5
                                  go_wp2_with (first | (go_at_call 15; (with_reducible refine (mapper_Bank.calls t205 t206 t207 t208 t209 t210 16384 t218 _ A92.out).mono ?_); rintro e w105 ⟨rfl, hb⟩; have n0_ := Aside0.mk (blk_below (g := gb202) (o := .cells #[.int .i64 t205, .bool t206, .int .u8 t207, .int .u8 t208, .int .u8 t209, .bool t210] 24 (0, 0)) (by (with_reducible repeat (first | refine blk_drewN ?_ _ | refine blk_drew ?_ | refine blk_alloc ?_ _)); exact BK202.out) hb); have n1_ := Aside0.mk (below_step (by repeat (first | (with_reducible first | exact HB.out | apply below_alloc | apply pw_below_drewN | apply below_drew1 | refine below_set ?_ GE202.out) | exact HB.out)) hb); clear BK202; clear HB; have BK202 := n0_; have HB := n1_; clear n0_ n1_; (try clear hb); (try clear hb2); (try clear hk); (try clear hi); have hcz106_0 : w105.cell? ⟨gb202, 0, none⟩ = some (.int .i64 t205) := (blk_cell BK202.out 0).trans rfl; have hcz106_1 : w105.cell? ⟨gb202, 1, none⟩ = some (.bool t206) := (blk_cell BK202.out 1).trans rfl; have hcz106_2 : w105.cell? ⟨gb202, 2, none⟩ = some (.int .u8 t207) := (blk_cell BK202.out 2).trans rfl; have hcz106_3 : w105.cell? ⟨gb202, 3, none⟩ = some (.int .u8 t208) := (blk_cell BK202.out 3).trans rfl; have hcz106_4 : w105.cell? ⟨gb202, 4, none⟩ = some (.int .u8 t209) := (blk_cell BK202.out 4).trans rfl; have hcz106_5 : w105.cell? ⟨gb202, 5, none⟩ = some (.bool t210) := (blk_cell BK202.out 5).trans rfl; have hfz106_0 := blk_frozen BK202.out 0; have hfz106_1 := blk_frozen BK202.out 1; have hfz106_2 := blk_frozen BK202.out 2; have hfz106_3 := blk_frozen BK202.out 3; have hfz106_4 := blk_frozen BK202.out 4; have hfz106_5 := blk_frozen BK202.out 5) | (go_at_call 15; (with_reducible refine (mapper_Bank.calls t205 t206 t207 t208 t209 t210 0 t219 _ A96.out).mono ?_); rintro e w107 ⟨rfl, hb⟩; have n0_ := Aside0.mk (blk_below (g := gb202) (o := .cells #[.int .i64 t205, .bool t206, .int .u8 t207, .int .u8 t208, .int .u8 t209, .bool t210] 24 (0, 0)) (by (with_reducible repeat (first | refine blk_drewN ?_ _ | refine blk_drew ?_ | refine blk_alloc ?_ _)); exact BK202.out) hb); have n1_ := Aside0.mk (below_step (by repeat (first | (with_reducible first | exact HB.out | apply below_alloc | apply pw_below_drewN | apply below_drew1 | refine below_set ?_ GE202.out) | exact HB.out)) hb); clear BK202; clear HB; have BK202 := n0_; have HB := n1_; clear n0_ n1_; (try clear hb); (try clear hb2); (try clear hk); (try clear hi); have hcz108_0 : w107.cell? ⟨gb202, 0, none⟩ = some (.int .i64 t205) := (blk_cell BK202.out 0).trans rfl; have hcz108_1 : w107.cell? ⟨gb202, 1, none⟩ = some (.bool t206) := (blk_cell BK202.out 1).trans rfl; have hcz108_2 : w107.cell? ⟨gb202, 2, none⟩ = some (.int .u8 t207) := (blk_cell BK202.out 2).trans rfl; have hcz108_3 : w107.cell? ⟨gb202, 3, none⟩ = some (.int .u8 t208) := (blk_cell BK202.out 3).trans rfl; have hcz108_4 : w107.cell? ⟨gb202, 4, none⟩ = some (.int .u8 t209) := (blk_cell BK202.out 4).trans rfl; have hcz108_5 : w107.cell? ⟨gb202, 5, none⟩ = some (.bool t210) := (blk_cell BK202.out 5).trans rfl; have hfz108_0 := blk_frozen BK202.out 0; have hfz108_1 := blk_frozen BK202.out 1; have hfz108_2 := blk_frozen BK202.out 2; have hfz108_3 := blk_frozen BK202.out 3; have hfz108_4 := blk_frozen BK202.out 4; have hfz108_5 := blk_frozen BK202.out 5) | (go_at_call 15; (with_reducible refine (mapper_Bank.calls t205 t206 t207 t208 t209 t210 32767 t220 _ A102.out).mono ?_); rintro e w109 ⟨rfl, hb⟩; have n0_ := Aside0.mk (blk_below (g := gb202) (o := .cells #[.int .i64 t205, .bool t206, .int .u8 t207, .int .u8 t208, .int .u8 t209, .bool t210] 24 (0, 0)) (by (with_reducible repeat (first | refine blk_drewN ?_ _ | refine blk_drew ?_ | refine blk_alloc ?_ _)); exact BK202.out) hb); have n1_ := Aside0.mk (below_step (by repeat (first | (with_reducible first | exact HB.out | apply below_alloc | apply pw_below_drewN | apply below_drew1 | refine below_set ?_ GE202.out) | exact HB.out)) hb); clear BK202; clear HB; have BK202 := n0_; have HB := n1_; clear n0_ n1_; (try clear hb); (try clear hb2); (try clear hk); (try clear hi)))
                                  go_ret
                                  exact ⟨by first | rfl | (simp [errW_none, errW_some] <;> rfl) | (simp [*, errW_none, errW_some] <;> rfl), by repeat (first | (with_reducible first | exact HB.out | apply below_alloc | apply pw_below_drewN | apply below_drew1 | refine below_set ?_ GE202.out) | exact HB.out)⟩
                                · rw [if_neg c103] at H
                                  have c103b0 : (t220 == 0) = false := beq_eq_false_iff_ne.mpr c103
                                  have c103b1 : (t220 != 0) = true := bne_iff_ne.mpr c103
                                  have H' := Aside0.mk H
                                  clear H
                                  have hcz110_0 : wc.cell? ⟨gb202, 0, none⟩ = some (.int .i64 t205) := (blk_cell BK202.out 0).trans rfl
                                  have hcz110_1 : wc.cell? ⟨gb202, 1, none⟩ = some (.bool t206) := (blk_cell BK202.out 1).trans rfl
                                  have hcz110_2 : wc.cell? ⟨gb202, 2, none⟩ = some (.int .u8 t207) := (blk_cell BK202.out 2).trans rfl
                                  have hcz110_3 : wc.cell? ⟨gb202, 3, none⟩ = some (.int .u8 t208) := (blk_cell BK202.out 3).trans rfl
                                  have hcz110_4 : wc.cell? ⟨gb202, 4, none⟩ = some (.int .u8 t209) := (blk_cell BK202.out 4).trans rfl
                                  have hcz110_5 : wc.cell? ⟨gb202, 5, none⟩ = some (.bool t210) := (blk_cell BK202.out 5).trans rfl
                                  have hfz110_0 := blk_frozen BK202.out 0
                                  have hfz110_1 := blk_frozen BK202.out 1
                                  have hfz110_2 := blk_frozen BK202.out 2
                                  have hfz110_3 := blk_frozen BK202.out 3
                                  have hfz110_4 := blk_frozen BK202.out 4
                                  have hfz110_5 := blk_frozen BK202.out 5
                                  go_wp2_with (first | (go_at_call 15; (with_reducible refine (mapper_Bank.calls t205 t206 t207 t208 t209 t210 16384 t218 _ A92.out).mono ?_); rintro e w111 ⟨rfl, hb⟩; have n0_ := Aside0.mk (blk_below (g := gb202) (o := .cells #[.int .i64 t205, .bool t206, .int .u8 t207, .int .u8 t208, .int .u8 t209, .bool t210] 24 (0, 0)) (by (with_reducible repeat (first | refine blk_drewN ?_ _ | refine blk_drew ?_ | refine blk_alloc ?_ _)); exact BK202.out) hb); have n1_ := Aside0.mk (below_step (by repeat (first | (with_reducible first | exact HB.out | apply below_alloc | apply pw_below_drewN | apply below_drew1 | refine below_set ?_ GE202.out) | exact HB.out)) hb); clear BK202; clear HB; have BK202 := n0_; have HB := n1_; clear n0_ n1_; (try clear hb); (try clear hb2); (try clear hk); (try clear hi); have hcz112_0 : w111.cell? ⟨gb202, 0, none⟩ = some (.int .i64 t205) := (blk_cell BK202.out 0).trans rfl; have hcz112_1 : w111.cell? ⟨gb202, 1, none⟩ = some (.bool t206) := (blk_cell BK202.out 1).trans rfl; have hcz112_2 : w111.cell? ⟨gb202, 2, none⟩ = some (.int .u8 t207) := (blk_cell BK202.out 2).trans rfl; have hcz112_3 : w111.cell? ⟨gb202, 3, none⟩ = some (.int .u8 t208) := (blk_cell BK202.out 3).trans rfl; have hcz112_4 : w111.cell? ⟨gb202, 4, none⟩ = some (.int .u8 t209) := (blk_cell BK202.out 4).trans rfl; have hcz112_5 : w111.cell? ⟨gb202, 5, none⟩ = some (.bool t210) := (blk_cell BK202.out 5).trans rfl; have hfz112_0 := blk_frozen BK202.out 0; have hfz112_1 := blk_frozen BK202.out 1; have hfz112_2 := blk_frozen BK202.out 2; have hfz112_3 := blk_frozen BK202.out 3; have hfz112_4 := blk_frozen BK202.out 4; have hfz112_5 := blk_frozen BK202.out 5) | (go_at_call 15; (with_reducible refine (mapper_Bank.calls t205 t206 t207 t208 t209 t210 0 t219 _ A96.out).mono ?_); rintro e w113 ⟨rfl, hb⟩; have n0_ := Aside0.mk (blk_below (g := gb202) (o := .cells #[.int .i64 t205, .bool t206, .int .u8 t207, .int .u8 t208, .int .u8 t209, .bool t210] 24 (0, 0)) (by (with_reducible repeat (first | refine blk_drewN ?_ _ | refine blk_drew ?_ | refine blk_alloc ?_ _)); exact BK202.out) hb); have n1_ := Aside0.mk (below_step (by repeat (first | (with_reducible first | exact HB.out | apply below_alloc | apply pw_below_drewN | apply below_drew1 | refine below_set ?_ GE202.out) | exact HB.out)) hb); clear BK202; clear HB; have BK202 := n0_; have HB := n1_; clear n0_ n1_; (try clear hb); (try clear hb2); (try clear hk); (try clear hi); have hcz114_0 : w113.cell? ⟨gb202, 0, none⟩ = some (.int .i64 t205) := (blk_cell BK202.out 0).trans rfl; have hcz114_1 : w113.cell? ⟨gb202, 1, none⟩ = some (.bool t206) := (blk_cell BK202.out 1).trans rfl; have hcz114_2 : w113.cell? ⟨gb202, 2, none⟩ = some (.int .u8 t207) := (blk_cell BK202.out 2).trans rfl; have hcz114_3 : w113.cell? ⟨gb202, 3, none⟩ = some (.int .u8 t208) := (blk_cell BK202.out 3).trans rfl; have hcz114_4 : w113.cell? ⟨gb202, 4, none⟩ = some (.int .u8 t209) := (blk_cell BK202.out 4).trans rfl; have hcz114_5 : w113.cell? ⟨gb202, 5, none⟩ = some (.bool t210) := (blk_cell BK202.out 5).trans rfl; have hfz114_0 := blk_frozen BK202.out 0; have hfz114_1 := blk_frozen BK202.out 1; have hfz114_2 := blk_frozen BK202.out 2; have hfz114_3 := blk_frozen BK202.out 3; have hfz114_4 := blk_frozen BK202.out 4; have hfz114_5 := blk_frozen BK202.out 5) | (go_at_call 15; (with_reducible refine (mapper_Bank.calls t205 t206 t207 t208 t209 t210 32767 t220 _ A102.out).mono ?_); rintro e w115 ⟨rfl, hb⟩; have n0_ := Aside0.mk (blk_below (g := gb202) (o := .cells #[.int .i64 t205, .bool t206, .int .u8 t207, .int .u8 t208, .int .u8 t209, .bool t210] 24 (0, 0)) (by (with_reducible repeat (first | refine blk_drewN ?_ _ | refine blk_drew ?_ | refine blk_alloc ?_ _)); exact BK202.out) hb); have n1_ := Aside0.mk (below_step (by repeat (first | (with_reducible first | exact HB.out | apply below_alloc | apply pw_below_drewN | apply below_drew1 | refine below_set ?_ GE202.out) | exact HB.out)) hb); clear BK202; clear HB; have BK202 := n0_; have HB := n1_; clear n0_ n1_; (try clear hb); (try clear hb2); (try clear hk); (try clear hi)))
                                  go_roundg kj12
                                  case measure => have := HK1.out; have := HJ12.out; omega
                                  case rel => exact ⟨(wrap64 (x8_1 + 1)), (t205), (t206), (t207), (t208), (t209), (t210), (by first | rfl | (simp; done) | (simp [*]; done)), H', ⟨by have := HK1.out; have := HJ12.out; omega⟩, ⟨by (with_reducible repeat (first | refine blk_drewN ?_ _ | refine blk_drew ?_ | refine blk_alloc ?_ _)); exact BK202.out⟩, ⟨by repeat (first | (with_reducible first | exact HB.out | apply below_alloc | apply pw_below_drewN | apply below_drew1 | refine below_set ?_ GE202.out) | exact HB.out)⟩⟩
                · rw [if_neg c26] at H
                  have c26b0 : (t205 == a0) = false := beq_eq_false_iff_ne.mpr c26
                  have c26b1 : (t205 != a0) = true := bne_iff_ne.mpr c26
                  obtain rfl := Option.some.inj H
                  have hcz116_0 : wc.cell? ⟨gb202, 0, none⟩ = some (.int .i64 t205) := (blk_cell BK202.out 0).trans rfl
                  have hcz116_1 : wc.cell? ⟨gb202, 1, none⟩ = some (.bool t206) := (blk_cell BK202.out 1).trans rfl
                  have hcz116_2 : wc.cell? ⟨gb202, 2, none⟩ = some (.int .u8 t207) := (blk_cell BK202.out 2).trans rfl
                  have hcz116_3 : wc.cell? ⟨gb202, 3, none⟩ = some (.int .u8 t208) := (blk_cell BK202.out 3).trans rfl
                  have hcz116_4 : wc.cell? ⟨gb202, 4, none⟩ = some (.int .u8 t209) := (blk_cell BK202.out 4).trans rfl
                  have hcz116_5 : wc.cell? ⟨gb202, 5, none⟩ = some (.bool t210) := (blk_cell BK202.out 5).trans rfl
                  have hfz116_0 := blk_frozen BK202.out 0
                  have hfz116_1 := blk_frozen BK202.out 1
                  have hfz116_2 := blk_frozen BK202.out 2
                  have hfz116_3 := blk_frozen BK202.out 3
                  have hfz116_4 := blk_frozen BK202.out 4
                  have hfz116_5 := blk_frozen BK202.out 5
                  go_wp2
                  go_ret
                  exact ⟨by first | rfl | (simp [errW_none, errW_some] <;> rfl) | (simp [*, errW_none, errW_some] <;> rfl), by repeat (first | (with_reducible first | exact HB.out | apply below_alloc | apply pw_below_drewN | apply below_drew1 | refine below_set ?_ GE202.out) | exact HB.out)⟩
          · rw [if_neg c11] at H
            exact absurd H (by simp)
        · rw [if_neg c10] at H
          have c10b0 : decide (x8_1 < (l1.length : Int)) = false := decide_eq_false c10
          clear c10
          obtain rfl := Option.some.inj H
          go_wp2
          go_ret
          exact ⟨by first | rfl | (simp [errW_none, errW_some] <;> rfl) | (simp [*, errW_none, errW_some] <;> rfl), by repeat (first | (with_reducible first | exact HB.out | apply below_alloc | apply pw_below_drewN | apply below_drew1 | refine below_set ?_ GE202.out) | exact HB.out)⟩
  · rw [if_neg c5] at H
    have c5b0 : (t201 == 0) = false := beq_eq_false_iff_ne.mpr c5
    have c5b1 : (t201 != 0) = true := bne_iff_ne.mpr c5
    by_cases c117 : t194 = true
    · subst c117
      have H1 : (some (t195 == 0 && (!t196 && (t197 == 0 && (t198 == 0 && (t199 == 0 && (!t200))))))) = some r := by rw [if_pos rfl] at H; exact H
      clear H
      have H := H1
      clear H1
      obtain rfl := Option.some.inj H
      go_enter Try.func7, Try.ntmps7
      go_wp2_with (first | ((with_reducible refine gate_callee (f := 10) rfl ?_); refine goesL_ (some 10) rfl rfl Try.func10 (by kernel_rfl) rfl #[] rfl (by (try simp only [List.map_toArray, List.map_cons, List.map_nil]); first | done | rfl | (simp only [List.length_drop, List.length_take]; rfl)) ?_; (with_reducible refine (whirligiglaw08_shown.calls  true _ A3.out).mono ?_); rintro e w118 ⟨rfl, hb⟩; refine ⟨_, rfl, ?_⟩; have n0_ := Aside0.mk (below_step (by repeat (first | (with_reducible first | exact HB.out | apply below_alloc | apply pw_below_drewN | apply below_drew1) | exact HB.out)) hb); clear HB; have HB := n0_; clear n0_; (try clear hb); (try clear hb2); (try clear hk); (try clear hi)) | ((with_reducible refine gate_callee (f := 11) rfl ?_); refine goesL_ (some 13) rfl rfl Try.func11 (by kernel_rfl) rfl #[.int .i64 a0] rfl (by (try simp only [List.map_toArray, List.map_cons, List.map_nil]); first | done | rfl | (simp only [List.length_drop, List.length_take]; rfl)) ?_; (with_reducible refine (mapper_New.calls a0 t195 t196 t197 t198 t199 t200 t201 _ A4.out).mono ?_); rintro e w119 ⟨rfl, hb⟩; refine ⟨_, rfl, ?_⟩; have n0_ := Aside0.mk (below_step (by repeat (first | (with_reducible first | exact HB.out | apply below_alloc | apply pw_below_drewN | apply below_drew1) | exact HB.out)) hb); clear HB; have HB := n0_; clear n0_; (try clear hb); (try clear hb2); (try clear hk); (try clear hi)) | ((with_reducible refine gate_dst (N := 6) rfl ?_); refine box_event ?hg (N := 6) ?hd (cs := #[.int .i64 0, .bool false, .int .u8 0, .int .u8 0, .int .u8 0, .bool false]) (t := 24) ?hr ?_; (case hd => rfl); (case hg => rfl); (case hr => first | (go_simp; done) | (go_simp; rfl)); intro gb202 hg w120 hbox hb; have n0_ := Aside0.mk (below_step (by repeat (first | (with_reducible first | exact HB.out | apply below_alloc | apply pw_below_drewN | apply below_drew1) | exact HB.out)) hb); have n1_ := Aside0.mk (hbox); have n2_ := Aside0.mk ((by rw [hg]; exact (below_size (by repeat (first | (with_reducible first | exact HB.out | apply below_alloc | apply pw_below_drewN | apply below_drew1) | exact HB.out))) : w.heap.size ≤ gb202)); have n3_ := Aside0.mk ((by rw [hg]; exact (below_size (by repeat (first | (with_reducible first | exact HB.out | apply below_alloc | apply pw_below_drewN | apply below_drew1) | exact HB.out))) : w.heap.size ≤ gb202)); clear HB; have HB := n0_; have BK202 := n1_; have GW202 := n2_; have GE202 := n3_; clear n0_ n1_ n2_ n3_; clear hb hbox hg; have hcz121_0 : w120.cell? ⟨gb202, 0, none⟩ = some (.int .i64 0) := (blk_cell BK202.out 0).trans rfl; have hcz121_1 : w120.cell? ⟨gb202, 1, none⟩ = some (.bool false) := (blk_cell BK202.out 1).trans rfl; have hcz121_2 : w120.cell? ⟨gb202, 2, none⟩ = some (.int .u8 0) := (blk_cell BK202.out 2).trans rfl; have hcz121_3 : w120.cell? ⟨gb202, 3, none⟩ = some (.int .u8 0) := (blk_cell BK202.out 3).trans rfl; have hcz121_4 : w120.cell? ⟨gb202, 4, none⟩ = some (.int .u8 0) := (blk_cell BK202.out 4).trans rfl; have hcz121_5 : w120.cell? ⟨gb202, 5, none⟩ = some (.bool false) := (blk_cell BK202.out 5).trans rfl; have hfz121_0 := blk_frozen BK202.out 0; have hfz121_1 := blk_frozen BK202.out 1; have hfz121_2 := blk_frozen BK202.out 2; have hfz121_3 := blk_frozen BK202.out 3; have hfz121_4 := blk_frozen BK202.out 4; have hfz121_5 := blk_frozen BK202.out 5))
      go_ret
      exact ⟨by first | rfl | (simp [errW_none, errW_some] <;> rfl) | (simp [*, errW_none, errW_some] <;> rfl), by repeat (first | (with_reducible first | exact HB.out | apply below_alloc | apply pw_below_drewN | apply below_drew1 | refine below_set ?_ GE202.out) | exact HB.out)⟩
    · replace c117 := Bool.eq_false_iff.mpr c117
      subst c117
      have H1 : (some false) = some r := by rw [if_neg (show ¬ (false = true) by decide)] at H; exact H
      clear H
      have H := H1
      clear H1
      obtain rfl := Option.some.inj H
      go_enter Try.func7, Try.ntmps7
      go_wp2_with (first | ((with_reducible refine gate_callee (f := 10) rfl ?_); refine goesL_ (some 10) rfl rfl Try.func10 (by kernel_rfl) rfl #[] rfl (by (try simp only [List.map_toArray, List.map_cons, List.map_nil]); first | done | rfl | (simp only [List.length_drop, List.length_take]; rfl)) ?_; (with_reducible refine (whirligiglaw08_shown.calls  false _ A3.out).mono ?_); rintro e w122 ⟨rfl, hb⟩; refine ⟨_, rfl, ?_⟩; have n0_ := Aside0.mk (below_step (by repeat (first | (with_reducible first | exact HB.out | apply below_alloc | apply pw_below_drewN | apply below_drew1) | exact HB.out)) hb); clear HB; have HB := n0_; clear n0_; (try clear hb); (try clear hb2); (try clear hk); (try clear hi)) | ((with_reducible refine gate_callee (f := 11) rfl ?_); refine goesL_ (some 13) rfl rfl Try.func11 (by kernel_rfl) rfl #[.int .i64 a0] rfl (by (try simp only [List.map_toArray, List.map_cons, List.map_nil]); first | done | rfl | (simp only [List.length_drop, List.length_take]; rfl)) ?_; (with_reducible refine (mapper_New.calls a0 t195 t196 t197 t198 t199 t200 t201 _ A4.out).mono ?_); rintro e w123 ⟨rfl, hb⟩; refine ⟨_, rfl, ?_⟩; have n0_ := Aside0.mk (below_step (by repeat (first | (with_reducible first | exact HB.out | apply below_alloc | apply pw_below_drewN | apply below_drew1) | exact HB.out)) hb); clear HB; have HB := n0_; clear n0_; (try clear hb); (try clear hb2); (try clear hk); (try clear hi)) | ((with_reducible refine gate_dst (N := 6) rfl ?_); refine box_event ?hg (N := 6) ?hd (cs := #[.int .i64 0, .bool false, .int .u8 0, .int .u8 0, .int .u8 0, .bool false]) (t := 24) ?hr ?_; (case hd => rfl); (case hg => rfl); (case hr => first | (go_simp; done) | (go_simp; rfl)); intro gb202 hg w124 hbox hb; have n0_ := Aside0.mk (below_step (by repeat (first | (with_reducible first | exact HB.out | apply below_alloc | apply pw_below_drewN | apply below_drew1) | exact HB.out)) hb); have n1_ := Aside0.mk (hbox); have n2_ := Aside0.mk ((by rw [hg]; exact (below_size (by repeat (first | (with_reducible first | exact HB.out | apply below_alloc | apply pw_below_drewN | apply below_drew1) | exact HB.out))) : w.heap.size ≤ gb202)); have n3_ := Aside0.mk ((by rw [hg]; exact (below_size (by repeat (first | (with_reducible first | exact HB.out | apply below_alloc | apply pw_below_drewN | apply below_drew1) | exact HB.out))) : w.heap.size ≤ gb202)); clear HB; have HB := n0_; have BK202 := n1_; have GW202 := n2_; have GE202 := n3_; clear n0_ n1_ n2_ n3_; clear hb hbox hg; have hcz125_0 : w124.cell? ⟨gb202, 0, none⟩ = some (.int .i64 0) := (blk_cell BK202.out 0).trans rfl; have hcz125_1 : w124.cell? ⟨gb202, 1, none⟩ = some (.bool false) := (blk_cell BK202.out 1).trans rfl; have hcz125_2 : w124.cell? ⟨gb202, 2, none⟩ = some (.int .u8 0) := (blk_cell BK202.out 2).trans rfl; have hcz125_3 : w124.cell? ⟨gb202, 3, none⟩ = some (.int .u8 0) := (blk_cell BK202.out 3).trans rfl; have hcz125_4 : w124.cell? ⟨gb202, 4, none⟩ = some (.int .u8 0) := (blk_cell BK202.out 4).trans rfl; have hcz125_5 : w124.cell? ⟨gb202, 5, none⟩ = some (.bool false) := (blk_cell BK202.out 5).trans rfl; have hfz125_0 := blk_frozen BK202.out 0; have hfz125_1 := blk_frozen BK202.out 1; have hfz125_2 := blk_frozen BK202.out 2; have hfz125_3 := blk_frozen BK202.out 3; have hfz125_4 := blk_frozen BK202.out 4; have hfz125_5 := blk_frozen BK202.out 5))
      go_ret
      exact ⟨by first | rfl | (simp [errW_none, errW_some] <;> rfl) | (simp [*, errW_none, errW_some] <;> rfl), by repeat (first | (with_reducible first | exact HB.out | apply below_alloc | apply pw_below_drewN | apply below_drew1 | refine below_set ?_ GE202.out) | exact HB.out)⟩

end Go.Proofs.Ytkogdocpldfmnaa.G
