/- Written by a program of this session, after the kit's print: Go functions as Lean functions, each with the proof that the Go text comes to it. -/
import Derived.Test.YtmlpijlnchnabaaG0
import Derived.Test.YtmlpijlnchnabaaG1
import Derived.Test.YtmlpijlnchnabaaG8
import Derived.Test.YtmlpijlnchnabaaHHead
import Derived.Test.YtmlpijlnchnabaaHMake
namespace Go.Proofs.Ytmlpijlnchnabaa.G
open Go.RowKit Go.Proofs.YtmlpijlnchnabaaW.PrintWords Go.Proofs.YtmlpijlnchnabaaW.PrintLast Go.Proofs.YtmlpijlnchnabaaW.PrintMore
attribute [local go_sem] max2_int min2_int max_two min_two max_three min_three max_four min_four   -- for this text's walks alone
set_option linter.unusedVariables false
set_option linter.unusedSimpArgs false

open Go.Proofs.Ytmlpijlnchnabaa.Hand
attribute [local go_sem high] eqA26
/-! ### whirligiglaw07_HeaderTurned: function 5 -/
def whirligiglaw07_HeaderTurned.j0 : Nat → Int → Int → Bool → List Int → Bool → Option (Bool)
  | 0, _, _, _, _, _ => none
  | k + 1, x1, x2, x7, x8, x33 => if x33 = true then (some x7) else (if (x8.length : Int) < 336 then (some false) else (if 0 ≤ (wrap64 (308 + (Int.tmod (wrap64 (x1)) 26))) then (if (wrap64 (308 + (Int.tmod (wrap64 (x1)) 26))) < (x8.length : Int) then ((header_Parse.f (x8.set ((wrap64 (308 + (Int.tmod (wrap64 (x1)) 26))) : Int).toNat (Go.bits .xor .u8 (rd x8 (wrap64 (308 + (Int.tmod (wrap64 (x1)) 26)))) x2))).bind fun bt326 => (if x7 = true then (if bt326.2.2.2.2.2.2.2.2.2.2 = 0 then (some false) else (some (bt326.1.toList == ([] : List UInt8) && (bt326.2.1 == 0 && (bt326.2.2.1 == 0 && (!bt326.2.2.2.1 && (!bt326.2.2.2.2.1 && (!bt326.2.2.2.2.2.1 && (bt326.2.2.2.2.2.2.1 == 0 && (bt326.2.2.2.2.2.2.2.1 == 0 && (bt326.2.2.2.2.2.2.2.2.1 == 0 && (bt326.2.2.2.2.2.2.2.2.2.1 == 0)))))))))))) else (some false))) else (none)) else (none)))
def whirligiglaw07_HeaderTurned.f (k : Nat) (a0_0 : ByteArray) (a0_1 : Int) (a0_2 : Int) (a0_3 : Int) (l0_4 : List Int) (a1 : Int) (a2 : Int) : Option (Bool) := (whirligiglaw07_shown.f k).bind fun t319 => ((header_Make.f a0_0 a0_1 a0_2 a0_3 l0_4).bind fun bt320 => (if bt320.2 = 0 then (whirligiglaw07_HeaderTurned.j0 k a1 a2 t319 bt320.1 (a2 == 0)) else (whirligiglaw07_HeaderTurned.j0 k a1 a2 t319 bt320.1 true)))
theorem whirligiglaw07_HeaderTurned.mono_l : ∀ k, (∀ y0 y1 y2 y3 y4, LeO (whirligiglaw07_HeaderTurned.j0 k y0 y1 y2 y3 y4) (whirligiglaw07_HeaderTurned.j0 (k + 1) y0 y1 y2 y3 y4))
  | 0 => fun _ _ _ _ _ r h => by simp [whirligiglaw07_HeaderTurned.j0] at h
  | k + 1 => by
    have ih0 := whirligiglaw07_HeaderTurned.mono_l k
    · intro y0 y1 y2 y3 y4
      unfold whirligiglaw07_HeaderTurned.j0
      repeat' first
      | (with_reducible exact ih0 _ _ _ _ _)
      | (with_reducible exact whirligiglaw07_shown.mono _)
      | (with_reducible exact LeO.refl _)
      | (with_reducible exact LeO.none _)
      | (with_reducible refine LeO.ite ?_ ?_)
      | (with_reducible refine LeO.bind ?_ (fun _ => ?_))
      | exact ih0 _ _ _ _ _
      | exact whirligiglaw07_shown.mono _
      | exact LeO.none _
      | refine LeO.ite ?_ ?_
      | refine LeO.bind ?_ (fun _ => ?_)
theorem whirligiglaw07_HeaderTurned.mono : ∀ a0 a1 a2 a3 a4 a5 a6 k, LeO (whirligiglaw07_HeaderTurned.f k a0 a1 a2 a3 a4 a5 a6) (whirligiglaw07_HeaderTurned.f (k + 1) a0 a1 a2 a3 a4 a5 a6) := by
  intro a0 a1 a2 a3 a4 a5 a6 k
  have ih0 := whirligiglaw07_HeaderTurned.mono_l k
  unfold whirligiglaw07_HeaderTurned.f
  repeat' first
      | (with_reducible exact ih0 _ _ _ _ _)
      | (with_reducible exact whirligiglaw07_shown.mono _)
      | (with_reducible exact LeO.refl _)
      | (with_reducible exact LeO.none _)
      | (with_reducible refine LeO.ite ?_ ?_)
      | (with_reducible refine LeO.bind ?_ (fun _ => ?_))
      | exact ih0 _ _ _ _ _
      | exact whirligiglaw07_shown.mono _
      | exact LeO.none _
      | refine LeO.ite ?_ ?_
      | refine LeO.bind ?_ (fun _ => ?_)
set_option maxHeartbeats 8000000 in
set_option maxRecDepth 100000 in
theorem whirligiglaw07_HeaderTurned.calls (k : Nat) (a0_0 : ByteArray) (a0_1 : Int) (a0_2 : Int) (a0_3 : Int) (A0_4 : Option Addr) (c0_4 : Nat) (l0_4 : List Int) (a1 : Int) (a2 : Int) (r : Bool) (w : World) (hr0_4 : Kd.C (Kd.int .u8) w A0_4 l0_4.length l0_4) (hc0_4 : l0_4.length ≤ c0_4) (h : whirligiglaw07_HeaderTurned.f k a0_0 a0_1 a0_2 a0_3 l0_4 a1 a2 = some r) (ht : r = true) :
    Calls Try.prog 5 #[.agg #[.string a0_0, .int .u8 a0_1, .int .u8 a0_2, .int .u8 a0_3, .slice A0_4 l0_4.length c0_4], .int .u8 a1, .int .u8 a2] w fun e w' => e = .returned (.bool r) ∧ Below w.heap.size w w' := by
  have HT := Aside0.mk ht
  clear ht
  have hu34 := Try.underlying34
  have hu26 := Try.underlying26
  have HR0_4 := Aside0.mk hr0_4
  have HC0_4 := Aside0.mk hc0_4
  clear hr0_4 hc0_4
  have HB := Aside0.mk (Below.refl w.heap.size w)
  have H : ((whirligiglaw07_shown.f k).bind fun t319 => ((header_Make.f a0_0 a0_1 a0_2 a0_3 l0_4).bind fun bt320 => (if bt320.2 = 0 then (whirligiglaw07_HeaderTurned.j0 k a1 a2 t319 bt320.1 (a2 == 0)) else (whirligiglaw07_HeaderTurned.j0 k a1 a2 t319 bt320.1 true)))) = some r := h
  clear h
  replace H := Option.bind_eq_some_iff.mp H
  obtain ⟨t319, A40, H⟩ := H
  replace H : ((header_Make.f a0_0 a0_1 a0_2 a0_3 l0_4).bind fun bt320 => (if bt320.2 = 0 then (whirligiglaw07_HeaderTurned.j0 k a1 a2 t319 bt320.1 (a2 == 0)) else (whirligiglaw07_HeaderTurned.j0 k a1 a2 t319 bt320.1 true))) = some r := H
  have A4 := Aside0.mk A40
  clear A40
  replace H := Option.bind_eq_some_iff.mp H
  obtain ⟨⟨t320, t321⟩, A50, H⟩ := H
  replace H : (if t321 = 0 then (whirligiglaw07_HeaderTurned.j0 k a1 a2 t319 t320 (a2 == 0)) else (whirligiglaw07_HeaderTurned.j0 k a1 a2 t319 t320 true)) = some r := H
  have A5 := Aside0.mk A50
  clear A50
  have HC6 := Aside0.mk H
  clear H
  go_enter Try.func5, Try.ntmps5
  go_upto_region 3 with (first | ((with_reducible refine gate_dst (N := 3) rfl ?_); refine box_event ?hg (N := 3) ?hd (cs := #[.string a0_0, .int .u8 a0_1, .int .u8 a0_2, .int .u8 a0_3, .slice A0_4 l0_4.length c0_4]) (t := 34) ?hr ?_; (case hd => rfl); (case hg => rfl); (case hr => first | (go_simp; done) | (go_simp; rfl)); intro gb318 hg w7 hbox hb; have n0_ := Aside0.mk (below_step (by repeat (first | (with_reducible first | exact HB.out | apply below_alloc | apply pw_below_drewN | apply below_drew1) | exact HB.out)) hb); have n1_ := Aside0.mk (hbox); have n2_ := Aside0.mk ((by rw [hg]; exact (below_size (by repeat (first | (with_reducible first | exact HB.out | apply below_alloc | apply pw_below_drewN | apply below_drew1) | exact HB.out))) : w.heap.size ≤ gb318)); have n3_ := Aside0.mk ((by rw [hg]; exact (below_size (by repeat (first | (with_reducible first | exact HB.out | apply below_alloc | apply pw_below_drewN | apply below_drew1) | exact HB.out))) : w.heap.size ≤ gb318)); clear HB; have HB := n0_; have BK318 := n1_; have GW318 := n2_; have GE318 := n3_; clear n0_ n1_ n2_ n3_; clear hb hbox hg) | ((with_reducible refine gate_callee (f := 9) rfl ?_); refine goesL_ (some 13) rfl rfl Try.func9 (by kernel_rfl) rfl #[] rfl (by (try simp only [List.map_toArray, List.map_cons, List.map_nil]); first | done | rfl | (simp only [List.length_drop, List.length_take]; rfl)) ?_; (with_reducible refine (whirligiglaw07_shown.calls k  t319 _ A4.out).mono ?_); rintro e w8 ⟨rfl, hb⟩; refine ⟨_, rfl, ?_⟩; have n0_ := Aside0.mk (blk_below (g := gb318) (o := .cells #[.string a0_0, .int .u8 a0_1, .int .u8 a0_2, .int .u8 a0_3, .slice A0_4 l0_4.length c0_4] 34 (0, 0)) (by (with_reducible repeat (first | refine blk_drewN ?_ _ | refine blk_drew ?_ | refine blk_alloc ?_ _)); exact BK318.out) hb); have n1_ := Aside0.mk (below_step (by repeat (first | (with_reducible first | exact HB.out | apply below_alloc | apply pw_below_drewN | apply below_drew1 | refine below_set ?_ GE318.out) | exact HB.out)) hb); clear BK318; clear HB; have BK318 := n0_; have HB := n1_; clear n0_ n1_; (try clear hb); (try clear hb2); (try clear hk); (try clear hi); have hcz9_0 : w8.cell? ⟨gb318, 0, none⟩ = some (.string a0_0) := (blk_cell BK318.out 0).trans rfl; have hcz9_1 : w8.cell? ⟨gb318, 1, none⟩ = some (.int .u8 a0_1) := (blk_cell BK318.out 1).trans rfl; have hcz9_2 : w8.cell? ⟨gb318, 2, none⟩ = some (.int .u8 a0_2) := (blk_cell BK318.out 2).trans rfl; have hcz9_3 : w8.cell? ⟨gb318, 3, none⟩ = some (.int .u8 a0_3) := (blk_cell BK318.out 3).trans rfl; have hcz9_4 : w8.cell? ⟨gb318, 4, none⟩ = some (.slice A0_4 l0_4.length c0_4) := (blk_cell BK318.out 4).trans rfl; have hfz9_0 := blk_frozen BK318.out 0; have hfz9_1 := blk_frozen BK318.out 1; have hfz9_2 := blk_frozen BK318.out 2; have hfz9_3 := blk_frozen BK318.out 3; have hfz9_4 := blk_frozen BK318.out 4) | ((with_reducible refine gate_callee (f := 12) rfl ?_); refine goesL_ (some 25) rfl rfl Try.func12 (by kernel_rfl) rfl #[.string a0_0, .int .u8 a0_1, .int .u8 a0_2, .int .u8 a0_3, .slice A0_4 l0_4.length c0_4] rfl (by (try simp only [List.map_toArray, List.map_cons, List.map_nil]); first | done | rfl | (simp only [List.length_drop, List.length_take]; rfl)) ?_; (with_reducible refine (header_Make.calls a0_0 a0_1 a0_2 a0_3 _ _ l0_4 t320 t321 _ ?side1 ?side2 A5.out).mono ?_); (case side1 => repeat (first | exact (Kd.C_below HR0_4.out HB.out) | (with_reducible refine Kd.C_alloc ?_ _) | (with_reducible refine Kd.C_drewN ?_ _) | (with_reducible refine Kd.C_drew ?_))); (case side2 => exact HC0_4.out); rintro e w10 ⟨v322, rfl, ho0, hb⟩; refine ⟨_, rfl, ?_⟩; have n0_ := Aside0.mk (Kd.R_lower ho0 (below_size (by repeat (first | (with_reducible first | exact HB.out | apply below_alloc | apply pw_below_drewN | apply below_drew1 | refine below_set ?_ GE318.out) | exact HB.out)))); have n1_ := Aside0.mk (blk_below (g := gb318) (o := .cells #[.string a0_0, .int .u8 a0_1, .int .u8 a0_2, .int .u8 a0_3, .slice A0_4 l0_4.length c0_4] 34 (0, 0)) (by (with_reducible repeat (first | refine blk_drewN ?_ _ | refine blk_drew ?_ | refine blk_alloc ?_ _)); exact BK318.out) hb); have n2_ := Aside0.mk (below_step (by repeat (first | (with_reducible first | exact HB.out | apply below_alloc | apply pw_below_drewN | apply below_drew1 | refine below_set ?_ GE318.out) | exact HB.out)) hb); clear BK318; clear HB; have HO323 := n0_; have BK318 := n1_; have HB := n2_; clear n0_ n1_ n2_; (try clear hb); (try clear hb2); (try clear hk); (try clear hi); (try clear ho0)))
  (try simp only [Act.put, List.setIfInBounds_toArray, List.set_cons_zero, List.set_cons_succ])
  go_cut [33] (fun v33 wc => ∃ (kq : Nat) (x33_5 : Bool), v33 = .bool x33_5 ∧ Aside0 (whirligiglaw07_HeaderTurned.j0 kq a1 a2 t319 t320 x33_5 = some r) ∧ Aside0 (kq ≤ k) ∧ Aside0 (Kd.R (Kd.int .u8) 5 wc w.heap.size (fun _ => True) v322 t320) ∧ Aside0 (wc.heap[gb318]? = some (.cells #[.string a0_0, .int .u8 a0_1, .int .u8 a0_2, .int .u8 a0_3, (.slice A0_4 l0_4.length c0_4)] 34 (0, 0))) ∧ Aside0 (Below w.heap.size w wc))
  case first =>
    have H := HC6.out
    clear HC6
    by_cases c11 : t321 = 0
    · rw [if_pos c11] at H
      have c11b0 : (t321 == 0) = true := beq_iff_eq.mpr c11
      have c11b1 : (t321 != 0) = false := bne_eq_false_iff_eq.mpr c11
      clear c11
      (first | rw [c11b0] | (simp only [i64_w, i32_w]; rw [c11b0]) | skip)
      have H' := Aside0.mk H
      clear H
      go_wp2
      go_meet
      case rel => exact ⟨_, ((a2 == 0)), (by first | rfl | (simp; done) | (simp [*]; done)), H', ⟨by first | omega | exact Nat.le_refl _⟩, ⟨by (with_reducible repeat (first | apply Kd.R_alloc | apply Kd.R_drewN | apply Kd.R_drew)); exact HO323.out⟩, ⟨by (with_reducible repeat (first | refine blk_drewN ?_ _ | refine blk_drew ?_ | refine blk_alloc ?_ _)); exact BK318.out⟩, ⟨by repeat (first | (with_reducible first | exact HB.out | apply below_alloc | apply pw_below_drewN | apply below_drew1 | refine below_set ?_ GE318.out) | exact HB.out)⟩⟩
    · rw [if_neg c11] at H
      have c11b0 : (t321 == 0) = false := beq_eq_false_iff_ne.mpr c11
      have c11b1 : (t321 != 0) = true := bne_iff_ne.mpr c11
      (first | rw [c11b0] | (simp only [i64_w, i32_w]; rw [c11b0]) | skip)
      have H' := Aside0.mk H
      clear H
      go_wp2
      go_meet
      case rel => exact ⟨_, (true), (by first | rfl | (simp; done) | (simp [*]; done)), H', ⟨by first | omega | exact Nat.le_refl _⟩, ⟨by (with_reducible repeat (first | apply Kd.R_alloc | apply Kd.R_drewN | apply Kd.R_drew)); exact HO323.out⟩, ⟨by (with_reducible repeat (first | refine blk_drewN ?_ _ | refine blk_drew ?_ | refine blk_alloc ?_ _)); exact BK318.out⟩, ⟨by repeat (first | (with_reducible first | exact HB.out | apply below_alloc | apply pw_below_drewN | apply below_drew1 | refine below_set ?_ GE318.out) | exact HB.out)⟩⟩
  case rest =>
    clear HC6
    try clear c1
    try clear p2
    try clear c5
    try clear c9
    try clear c11
    try clear c11b0
    try clear c11b1
    try clear hcz9_0
    try clear hcz9_1
    try clear hcz9_2
    try clear hcz9_3
    try clear hcz9_4
    try clear hfz9_0
    try clear hfz9_1
    try clear hfz9_2
    try clear hfz9_3
    try clear hfz9_4
    obtain ⟨kq, x33_5, rfl, HA, HJ5, HO_8, BK318, HB⟩ := hcut
    cases kq with
    | zero => exact absurd HA.out (by simp [whirligiglaw07_HeaderTurned.j0])
    | succ kj5 =>
      have H := HA.out
      clear HA
      simp only [whirligiglaw07_HeaderTurned.j0] at H
      by_cases c12 : x33_5 = true
      · subst c12
        have H1 : (some t319) = some r := by rw [if_pos rfl] at H; exact H
        clear H
        have H := H1
        clear H1
        obtain rfl := Option.some.inj H
        go_wp2
        go_ret
        exact ⟨by first | rfl | (simp [errW_none, errW_some] <;> rfl) | (simp [*, errW_none, errW_some] <;> rfl), by repeat (first | (with_reducible first | exact HB.out | apply below_alloc | apply pw_below_drewN | apply below_drew1 | refine below_set ?_ GE318.out) | exact HB.out)⟩
      · replace c12 := Bool.eq_false_iff.mpr c12
        subst c12
        have H1 : (if (t320.length : Int) < 336 then (some false) else (if 0 ≤ (wrap64 (308 + (Int.tmod (wrap64 (a1)) 26))) then (if (wrap64 (308 + (Int.tmod (wrap64 (a1)) 26))) < (t320.length : Int) then ((header_Parse.f (t320.set ((wrap64 (308 + (Int.tmod (wrap64 (a1)) 26))) : Int).toNat (Go.bits .xor .u8 (rd t320 (wrap64 (308 + (Int.tmod (wrap64 (a1)) 26)))) a2))).bind fun bt326 => (if t319 = true then (if bt326.2.2.2.2.2.2.2.2.2.2 = 0 then (some false) else (some (bt326.1.toList == ([] : List UInt8) && (bt326.2.1 == 0 && (bt326.2.2.1 == 0 && (!bt326.2.2.2.1 && (!bt326.2.2.2.2.1 && (!bt326.2.2.2.2.2.1 && (bt326.2.2.2.2.2.2.1 == 0 && (bt326.2.2.2.2.2.2.2.1 == 0 && (bt326.2.2.2.2.2.2.2.2.1 == 0 && (bt326.2.2.2.2.2.2.2.2.2.1 == 0)))))))))))) else (some false))) else (none)) else (none))) = some r := by rw [if_neg (show ¬ (false = true) by decide)] at H; exact H
        clear H
        have H := H1
        clear H1
        by_cases c13 : (t320.length : Int) < 336
        · rw [if_pos c13] at H
          have c13b0 : decide ((t320.length : Int) < 336) = true := decide_eq_true c13
          have c13b1 : decide (t320.length < 336) = true := decide_eq_true (by omega)
          clear c13
          exact absurd ((Option.some.inj H).trans HT.out) (by simp)
        · rw [if_neg c13] at H
          have c13b0 : decide ((t320.length : Int) < 336) = false := decide_eq_false c13
          have c13b1 : decide (t320.length < 336) = false := decide_eq_false (by omega)
          clear c13
          obtain ⟨ji15, hji15⟩ : ∃ j_ : Int, (wrap64 (308 + (Int.tmod (wrap64 (a1)) 26))) = j_ := ⟨_, rfl⟩
          replace H : (if 0 ≤ (ji15) then (if (ji15) < (t320.length : Int) then ((header_Parse.f (t320.set ((ji15) : Int).toNat (Go.bits .xor .u8 (rd t320 (ji15)) a2))).bind fun bt326 => (if t319 = true then (if bt326.2.2.2.2.2.2.2.2.2.2 = 0 then (some false) else (some (bt326.1.toList == ([] : List UInt8) && (bt326.2.1 == 0 && (bt326.2.2.1 == 0 && (!bt326.2.2.2.1 && (!bt326.2.2.2.2.1 && (!bt326.2.2.2.2.2.1 && (bt326.2.2.2.2.2.2.1 == 0 && (bt326.2.2.2.2.2.2.2.1 == 0 && (bt326.2.2.2.2.2.2.2.2.1 == 0 && (bt326.2.2.2.2.2.2.2.2.2.1 == 0)))))))))))) else (some false))) else (none)) else (none)) = some r := by first | (rw [hji15] at H; exact H) | (simp only [hji15] at H ⊢; exact H)
          have hji15w : (IntKind.i64.wrap (308 + (Int.tmod (wrap64 (a1)) 26))) = ji15 := (i64_w _).trans hji15
          by_cases c16 : 0 ≤ (ji15)
          · rw [if_pos c16] at H
            have c16b0 : decide (0 ≤ (ji15)) = true := decide_eq_true c16
            clear c16
            by_cases c17 : (ji15) < (t320.length : Int)
            · rw [if_pos c17] at H
              have c17b0 : decide ((ji15) < (t320.length : Int)) = true := decide_eq_true c17
              clear c17
              obtain ⟨y325, hy325⟩ : ∃ y_ : List Int, y_ = (t320.set ((ji15) : Int).toNat (Go.bits .xor .u8 (rd t320 (ji15)) a2)) := ⟨_, rfl⟩
              replace H : ((header_Parse.f y325).bind fun bt326 => (if t319 = true then (if bt326.2.2.2.2.2.2.2.2.2.2 = 0 then (some false) else (some (bt326.1.toList == ([] : List UInt8) && (bt326.2.1 == 0 && (bt326.2.2.1 == 0 && (!bt326.2.2.2.1 && (!bt326.2.2.2.2.1 && (!bt326.2.2.2.2.2.1 && (bt326.2.2.2.2.2.2.1 == 0 && (bt326.2.2.2.2.2.2.2.1 == 0 && (bt326.2.2.2.2.2.2.2.2.1 == 0 && (bt326.2.2.2.2.2.2.2.2.2.1 == 0)))))))))))) else (some false))) = some r := by first | (rw [hy325]; with_reducible exact H) | (have H2_ := (Option.bind_some _ _).symm.trans H; rw [hy325]; with_reducible exact H2_) | (have H2_ := (Option.bind_some _ _).symm.trans H; with_reducible exact H2_) | with_reducible exact H | (rw [hy325]; exact H) | exact H
              have Ny325 := Aside0.mk hy325
              clear hy325
              replace H := Option.bind_eq_some_iff.mp H
              obtain ⟨⟨t326, t327, t328, t329, t330, t331, t332, t333, t334, t335, t336⟩, A190, H⟩ := H
              replace H : (if t319 = true then (if t336 = 0 then (some false) else (some (t326.toList == ([] : List UInt8) && (t327 == 0 && (t328 == 0 && (!t329 && (!t330 && (!t331 && (t332 == 0 && (t333 == 0 && (t334 == 0 && (t335 == 0)))))))))))) else (some false)) = some r := H
              have A19 := Aside0.mk A190
              clear A190
              by_cases c20 : t319 = true
              · subst c20
                have H1 : (if t336 = 0 then (some false) else (some (t326.toList == ([] : List UInt8) && (t327 == 0 && (t328 == 0 && (!t329 && (!t330 && (!t331 && (t332 == 0 && (t333 == 0 && (t334 == 0 && (t335 == 0)))))))))))) = some r := by rw [if_pos rfl] at H; exact H
                clear H
                have H := H1
                clear H1
                by_cases c21 : t336 = 0
                · rw [if_pos c21] at H
                  have c21b0 : (t336 == 0) = true := beq_iff_eq.mpr c21
                  have c21b1 : (t336 != 0) = false := bne_eq_false_iff_eq.mpr c21
                  clear c21
                  exact absurd ((Option.some.inj H).trans HT.out) (by simp)
                · rw [if_neg c21] at H
                  have c21b0 : (t336 == 0) = false := beq_eq_false_iff_ne.mpr c21
                  have c21b1 : (t336 != 0) = true := bne_iff_ne.mpr c21
                  obtain rfl := Option.some.inj H
                  obtain ⟨Ao29, co29, eo29⟩ := Kd.R_slice HO_8.out
                  subst eo29
                  have p324 : 0 ≤ ((ji15) : Int) := of_decide_eq_true (by first | (with_reducible assumption) | assumption)
                  have q324 : (ji15) < (t320.length : Int) := of_decide_eq_true (by first | (with_reducible assumption) | assumption)
                  obtain ⟨ad324, e324, hx324_0⟩ := Kd.at_int (Kd.R_reads' HO_8.out).2.2 (ji15) p324 q324
                  cases e324
                  replace p324 := eq_true p324
                  replace q324 := eq_true q324
                  have p18 : 0 ≤ ((ji15) : Int) := of_decide_eq_true (by first | (with_reducible assumption) | assumption)
                  have q18 : ((ji15) : Int) < ((t320.length : Int) : Int) := of_decide_eq_true (by first | (with_reducible assumption) | assumption)
                  obtain ⟨go18, co18, eo18, gb18, gl18, cl18, HG18⟩ := Kd.R_form HO_8.out (by omega)
                  (first | cases eo18 | (injection eo18 with ea_ en_ ec_; (first | subst ea_ | (injection ea_ with ea_; subst ea_)); subst ec_; clear en_))
                  have GB18 := Aside0.mk gb18
                  have GG18 := Aside0.mk HG18
                  clear gb18 gl18 HG18
                  (first | simp only [add_plain] at hx324_0 | skip)
                  obtain ⟨hx18_0, hf18_0⟩ := Kd.R_celln 0 HO_8.out ((ji15) : Int) p18 q18
                  replace p18 := eq_true p18
                  replace q18 := eq_true q18
                  have HP30 := Kd.R_putg HO_8.out ((ji15) : Int) (Go.bits .xor .u8 (rd t320 (ji15)) a2)
                  go_wp2_with (first | ((with_reducible refine gate_store (t := 5) (p := 50) rfl ?_); refine store_event (t := 5) (p := 50) (v := ?vo_w31) (w1 := (wc.setCell ⟨go18, ((ji15) : Int).toNat, none⟩ (.int .u8 (Go.bits .xor .u8 (rd t320 (ji15)) a2)))) ?hg ?ho ?hn ?hr ?_; (case ho => rfl); (case hg => rfl); (case hn => rfl); (case hr => first | (go_simp; done) | (go_simp; rfl)); intro w31 hw; have hg : wc.grownBy w31 (some go18) := (by rw [hw]; exact HP30.2); have hp_ : Kd.R (Kd.int .u8) 5 w31 w.heap.size (fun _ => True) (.slice (some ⟨go18, 0, none⟩) t320.length co29) y325 := (by rw [hw, Ny325.out]; exact HP30.1); clear HP30; have n0_ := Aside0.mk (hp_); have n1_ := Aside0.mk (blk_grown (g := gb318) (o := .cells #[.string a0_0, .int .u8 a0_1, .int .u8 a0_2, .int .u8 a0_3, .slice A0_4 l0_4.length c0_4] 34 (0, 0)) (by (with_reducible repeat (first | refine blk_drewN ?_ _ | refine blk_drew ?_ | refine blk_alloc ?_ _)); exact BK318.out) hg (Kd.R_ne HO_8.out BK318.out (by decide))); have n2_ := Aside0.mk ((by rw [hw]; exact below_set (HB.out) GB18.out : Below w.heap.size w w31)); clear HO_8; clear BK318; clear HB; have HO_8 := n0_; have BK318 := n1_; have HB := n2_; clear n0_ n1_ n2_; clear hg hw hp_) | ((with_reducible refine gate_callee (f := 10) rfl ?_); refine goesL_ (some 53) rfl rfl Try.func10 (by kernel_rfl) rfl #[.slice (some ⟨go18, 0, none⟩) y325.length co29] rfl (by (try simp only [List.map_toArray, List.map_cons, List.map_nil]); first | done | (rw [show y325.length = t320.length from (Kd.R_reads' HO_8.out).1.symm] <;> rfl) | rfl | (simp only [List.length_drop, List.length_take]; rfl)) ?_; (with_reducible refine (header_Parse.calls _ _ y325 t326 t327 t328 t329 t330 t331 t332 t333 t334 t335 t336 _ ?side1 ?side2 A19.out).mono ?_); (case side1 => repeat (first | exact (Kd.R_reads' HO_8.out).2.2 | (with_reducible refine Kd.C_alloc ?_ _) | (with_reducible refine Kd.C_drewN ?_ _) | (with_reducible refine Kd.C_drew ?_))); (case side2 => rw [show y325.length = t320.length from (Kd.R_reads' HO_8.out).1.symm]; exact (Kd.R_reads' HO_8.out).2.1); rintro e w32 ⟨rfl, hb⟩; refine ⟨_, rfl, ?_⟩; have n0_ := Aside0.mk (Kd.R_below (by (with_reducible repeat (first | apply Kd.R_alloc | apply Kd.R_drewN | apply Kd.R_drew)); exact HO_8.out) hb); have n1_ := Aside0.mk (blk_below (g := gb318) (o := .cells #[.string a0_0, .int .u8 a0_1, .int .u8 a0_2, .int .u8 a0_3, .slice A0_4 l0_4.length c0_4] 34 (0, 0)) (by (with_reducible repeat (first | refine blk_drewN ?_ _ | refine blk_drew ?_ | refine blk_alloc ?_ _)); exact BK318.out) hb); have n2_ := Aside0.mk (below_step (by repeat (first | (with_reducible first | exact HB.out | apply below_alloc | apply pw_below_drewN | apply below_drew1 | refine below_set ?_ GE318.out) | exact HB.out)) hb); clear HO_8; clear BK318; clear HB; have HO_8 := n0_; have BK318 := n1_; have HB := n2_; clear n0_ n1_ n2_; (try clear hb); (try clear hb2); (try clear hk); (try clear hi)) | ((with_reducible refine gate_dst (N := 11) rfl ?_); refine box_event ?hg (N := 11) ?hd (cs := #[.string (⟨#[]⟩ : ByteArray), .int .u8 0, .int .i64 0, .bool false, .bool false, .bool false, .int .i64 0, .int .i64 0, .int .u8 0, .int .u16 0]) (t := 26) ?hr ?_; (case hd => rfl); (case hg => rfl); (case hr => first | (go_simp; done) | (go_simp; rfl)); intro gb337 hg w33 hbox hb; have n0_ := Aside0.mk (Kd.R_below (by (with_reducible repeat (first | apply Kd.R_alloc | apply Kd.R_drewN | apply Kd.R_drew)); exact HO_8.out) hb); have n1_ := Aside0.mk (blk_below (g := gb318) (o := .cells #[.string a0_0, .int .u8 a0_1, .int .u8 a0_2, .int .u8 a0_3, .slice A0_4 l0_4.length c0_4] 34 (0, 0)) (by (with_reducible repeat (first | refine blk_drewN ?_ _ | refine blk_drew ?_ | refine blk_alloc ?_ _)); exact BK318.out) hb); have n2_ := Aside0.mk (below_step (by repeat (first | (with_reducible first | exact HB.out | apply below_alloc | apply pw_below_drewN | apply below_drew1 | refine below_set ?_ GE318.out) | exact HB.out)) hb); have n3_ := Aside0.mk (hbox); have n4_ := Aside0.mk ((by rw [hg]; exact (below_size (by repeat (first | (with_reducible first | exact HB.out | apply below_alloc | apply pw_below_drewN | apply below_drew1 | refine below_set ?_ GE318.out) | exact HB.out))) : w.heap.size ≤ gb337)); have n5_ := Aside0.mk ((by rw [hg]; exact (below_size (by repeat (first | (with_reducible first | exact HB.out | apply below_alloc | apply pw_below_drewN | apply below_drew1 | refine below_set ?_ GE318.out) | exact HB.out))) : w.heap.size ≤ gb337)); have n6_ := Aside0.mk ((by rw [hg]; exact Nat.ne_of_lt (blk_lt (g := gb318) (o := .cells #[.string a0_0, .int .u8 a0_1, .int .u8 a0_2, .int .u8 a0_3, .slice A0_4 l0_4.length c0_4] 34 (0, 0)) (by (with_reducible repeat (first | refine blk_drewN ?_ _ | refine blk_drew ?_ | refine blk_alloc ?_ _)); exact BK318.out)) : gb318 ≠ gb337)); have n7_ := Aside0.mk ((by rw [hg]; exact Nat.ne_of_gt (blk_lt (g := gb318) (o := .cells #[.string a0_0, .int .u8 a0_1, .int .u8 a0_2, .int .u8 a0_3, .slice A0_4 l0_4.length c0_4] 34 (0, 0)) (by (with_reducible repeat (first | refine blk_drewN ?_ _ | refine blk_drew ?_ | refine blk_alloc ?_ _)); exact BK318.out)) : gb337 ≠ gb318)); clear HO_8; clear BK318; clear HB; have HO_8 := n0_; have BK318 := n1_; have HB := n2_; have BK337 := n3_; have GW337 := n4_; have GE337 := n5_; have NB318_337 := n6_; have NB337_318 := n7_; clear n0_ n1_ n2_ n3_ n4_ n5_ n6_ n7_; clear hb hbox hg; have hnb34 := NB337_318.out; have hnc34 := NB318_337.out; have hcz35_0 : w33.cell? ⟨gb337, 0, none⟩ = some (.string (⟨#[]⟩ : ByteArray)) := (blk_cell BK337.out 0).trans rfl; have hcz35_1 : w33.cell? ⟨gb337, 1, none⟩ = some (.int .u8 0) := (blk_cell BK337.out 1).trans rfl; have hcz35_2 : w33.cell? ⟨gb337, 2, none⟩ = some (.int .i64 0) := (blk_cell BK337.out 2).trans rfl; have hcz35_3 : w33.cell? ⟨gb337, 3, none⟩ = some (.bool false) := (blk_cell BK337.out 3).trans rfl; have hcz35_4 : w33.cell? ⟨gb337, 4, none⟩ = some (.bool false) := (blk_cell BK337.out 4).trans rfl; have hcz35_5 : w33.cell? ⟨gb337, 5, none⟩ = some (.bool false) := (blk_cell BK337.out 5).trans rfl; have hcz35_6 : w33.cell? ⟨gb337, 6, none⟩ = some (.int .i64 0) := (blk_cell BK337.out 6).trans rfl; have hcz35_7 : w33.cell? ⟨gb337, 7, none⟩ = some (.int .i64 0) := (blk_cell BK337.out 7).trans rfl; have hcz35_8 : w33.cell? ⟨gb337, 8, none⟩ = some (.int .u8 0) := (blk_cell BK337.out 8).trans rfl; have hcz35_9 : w33.cell? ⟨gb337, 9, none⟩ = some (.int .u16 0) := (blk_cell BK337.out 9).trans rfl; have hfz35_0 := blk_frozen BK337.out 0; have hfz35_1 := blk_frozen BK337.out 1; have hfz35_2 := blk_frozen BK337.out 2; have hfz35_3 := blk_frozen BK337.out 3; have hfz35_4 := blk_frozen BK337.out 4; have hfz35_5 := blk_frozen BK337.out 5; have hfz35_6 := blk_frozen BK337.out 6; have hfz35_7 := blk_frozen BK337.out 7; have hfz35_8 := blk_frozen BK337.out 8; have hfz35_9 := blk_frozen BK337.out 9))
                  go_ret
                  exact ⟨by first | rfl | (simp [errW_none, errW_some] <;> rfl) | (simp only [← hji15]; first | rfl | (simp [errW_none, errW_some] <;> rfl)) | (simp [*, errW_none, errW_some] <;> rfl), by repeat (first | (with_reducible first | exact HB.out | apply below_alloc | apply pw_below_drewN | apply below_drew1 | refine below_set ?_ GE318.out | refine below_set ?_ GE337.out) | exact HB.out)⟩
              · replace c20 := Bool.eq_false_iff.mpr c20
                subst c20
                have H1 : (some false) = some r := by rw [if_neg (show ¬ (false = true) by decide)] at H; exact H
                clear H
                have H := H1
                clear H1
                exact absurd ((Option.some.inj H).trans HT.out) (by simp)
            · rw [if_neg c17] at H
              exact absurd H (by simp)
          · rw [if_neg c16] at H
            exact absurd H (by simp)

end Go.Proofs.Ytmlpijlnchnabaa.G
