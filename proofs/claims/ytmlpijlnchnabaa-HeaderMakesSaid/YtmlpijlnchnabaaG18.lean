/- Written by a program of this session, after the kit's print: Go functions as Lean functions, each with the proof that the Go text comes to it. -/
import Derived.Test.YtmlpijlnchnabaaG0
import Derived.Test.YtmlpijlnchnabaaG9
import Derived.Test.YtmlpijlnchnabaaG11
import Derived.Test.YtmlpijlnchnabaaG12
import Derived.Test.YtmlpijlnchnabaaG13
import Derived.Test.YtmlpijlnchnabaaG16
namespace Go.Proofs.Ytmlpijlnchnabaa.G
open Go.RowKit Go.Proofs.YtmlpijlnchnabaaW.PrintWords Go.Proofs.YtmlpijlnchnabaaW.PrintLast Go.Proofs.YtmlpijlnchnabaaW.PrintMore
attribute [local go_sem] max2_int min2_int max_two min_two max_three min_three max_four min_four   -- for this text's walks alone
set_option linter.unusedVariables false
set_option linter.unusedSimpArgs false

/-! ### whirligigref07_Make: function 13 -/
mutual
def whirligigref07_Make.l0 : Nat → ByteArray → Int → Int → Int → List Int → Int → Option (List Int × Int)
  | 0, _, _, _, _, _, _ => none
  | k + 1, x0, x1, x2, x3, x4, x12 => if x12 < (x0.size : Int) then (if 0 ≤ x12 then ((whirligigref07_signs.f (bt x0 x12)).bind fun t250 => (if t250 = true then (whirligigref07_Make.l0 k x0 x1 x2 x3 x4 (wrap64 (x12 + 1))) else (some (([] : List Int), 1)))) else (none)) else ((whirligigref07_Kinds.f k x1).bind fun bt251 => (if bt251.2.2.2.2.2.2.2.2.2.2 = true then (if x2 > 8 then (whirligigref07_Make.j1 k x0 x1 x2 x3 x4 true) else (if x3 > 5 then (whirligigref07_Make.j1 k x0 x1 x2 x3 x4 true) else ((whirligigref07_Most.f k x2).bind fun t263 => (whirligigref07_Make.j1 k x0 x1 x2 x3 x4 (decide ((x4.length : Int) > (wrap64 (t263 - 336)))))))) else (some (([] : List Int), 4))))
def whirligigref07_Make.j1 : Nat → ByteArray → Int → Int → Int → List Int → Bool → Option (List Int × Int)
  | 0, _, _, _, _, _, _ => none
  | k + 1, x0, x1, x2, x3, x4, x54 => if x54 = true then (some (([] : List Int), 5)) else (if 336 ≤ 281474976710656 then ((some (List.replicate 336 0 : List Int)).bind fun y264 => (if 257 < (y264.length : Int) then (if 258 < (y264.length : Int) then (if 259 < (y264.length : Int) then (whirligigref07_Make.l1 k x0 x1 x2 x3 x4 (((y264.set (257 : Int).toNat 195).set (258 : Int).toNat 80).set (259 : Int).toNat 1) 0) else (none)) else (none)) else (none))) else (none))
def whirligigref07_Make.l1 : Nat → ByteArray → Int → Int → Int → List Int → List Int → Int → Option (List Int × Int)
  | 0, _, _, _, _, _, _, _ => none
  | k + 1, x0, x1, x2, x3, x4, x15, x16 => if x16 < (x0.size : Int) then (if 0 ≤ x16 then (if 0 ≤ (wrap64 (308 + x16)) then (if (wrap64 (308 + x16)) < (x15.length : Int) then (whirligigref07_Make.l1 k x0 x1 x2 x3 x4 (x15.set ((wrap64 (308 + x16)) : Int).toNat (bt x0 x16)) (wrap64 (x16 + 1))) else (none)) else (none)) else (none)) else (if 327 < (x15.length : Int) then (if 328 < (x15.length : Int) then (if 329 < (x15.length : Int) then ((some (((x15.set (327 : Int).toNat x1).set (328 : Int).toNat x2).set (329 : Int).toNat x3 : List Int)).bind fun y273 => ((whirligigref07_Sum.f k y273).bind fun bt274 => (if 333 < (x15.length : Int) then ((some (y273.set (333 : Int).toNat bt274.1 : List Int)).bind fun y276 => (if y276.length + x4.length < 140737488355328 then ((some (y276 ++ x4 : List Int)).bind fun y277 => ((whirligigref07_Whole.f k y277).bind fun t280 => (if 334 < (y277.length : Int) then (if 335 < (y277.length : Int) then (some (((y277.set (334 : Int).toNat ((IntKind.u16.wrap (Int.tdiv t280 256)) % 256)).set (335 : Int).toNat ((Int.tmod t280 256) % 256)), 0)) else (none)) else (none)))) else (none))) else (none)))) else (none)) else (none)) else (none))
end
def whirligigref07_Make.f (k : Nat) (a0 : ByteArray) (a1 : Int) (a2 : Int) (a3 : Int) (l4 : List Int) : Option (List Int × Int) := if (a0.size : Int) > 16 then (some (([] : List Int), 1)) else (whirligigref07_Make.l0 k a0 a1 a2 a3 l4 0)
theorem whirligigref07_Make.mono_l : ∀ k, (∀ y0 y1 y2 y3 y4 y5, LeO (whirligigref07_Make.l0 k y0 y1 y2 y3 y4 y5) (whirligigref07_Make.l0 (k + 1) y0 y1 y2 y3 y4 y5)) ∧ (∀ y0 y1 y2 y3 y4 y5, LeO (whirligigref07_Make.j1 k y0 y1 y2 y3 y4 y5) (whirligigref07_Make.j1 (k + 1) y0 y1 y2 y3 y4 y5)) ∧ (∀ y0 y1 y2 y3 y4 y5 y6, LeO (whirligigref07_Make.l1 k y0 y1 y2 y3 y4 y5 y6) (whirligigref07_Make.l1 (k + 1) y0 y1 y2 y3 y4 y5 y6))
  | 0 => ⟨fun _ _ _ _ _ _ r h => by simp [whirligigref07_Make.l0] at h, fun _ _ _ _ _ _ r h => by simp [whirligigref07_Make.j1] at h, fun _ _ _ _ _ _ _ r h => by simp [whirligigref07_Make.l1] at h⟩
  | k + 1 => by
    obtain ⟨ih0, ih1, ih2⟩ := whirligigref07_Make.mono_l k
    refine ⟨?_, ?_, ?_⟩
    · intro y0 y1 y2 y3 y4 y5
      unfold whirligigref07_Make.l0
      repeat' first
      | (with_reducible exact ih0 _ _ _ _ _ _)
      | (with_reducible exact ih1 _ _ _ _ _ _)
      | (with_reducible exact ih2 _ _ _ _ _ _ _)
      | (with_reducible exact whirligigref07_Kinds.mono _ _)
      | (with_reducible exact whirligigref07_Most.mono _ _)
      | (with_reducible exact whirligigref07_Sum.mono _ _)
      | (with_reducible exact whirligigref07_Whole.mono _ _)
      | (with_reducible exact LeO.refl _)
      | (with_reducible exact LeO.none _)
      | (with_reducible refine LeO.ite ?_ ?_)
      | (with_reducible refine LeO.bind ?_ (fun _ => ?_))
      | exact ih0 _ _ _ _ _ _
      | exact ih1 _ _ _ _ _ _
      | exact ih2 _ _ _ _ _ _ _
      | exact whirligigref07_Kinds.mono _ _
      | exact whirligigref07_Most.mono _ _
      | exact whirligigref07_Sum.mono _ _
      | exact whirligigref07_Whole.mono _ _
      | exact LeO.none _
      | refine LeO.ite ?_ ?_
      | refine LeO.bind ?_ (fun _ => ?_)
    · intro y0 y1 y2 y3 y4 y5
      unfold whirligigref07_Make.j1
      repeat' first
      | (with_reducible exact ih0 _ _ _ _ _ _)
      | (with_reducible exact ih1 _ _ _ _ _ _)
      | (with_reducible exact ih2 _ _ _ _ _ _ _)
      | (with_reducible exact whirligigref07_Kinds.mono _ _)
      | (with_reducible exact whirligigref07_Most.mono _ _)
      | (with_reducible exact whirligigref07_Sum.mono _ _)
      | (with_reducible exact whirligigref07_Whole.mono _ _)
      | (with_reducible exact LeO.refl _)
      | (with_reducible exact LeO.none _)
      | (with_reducible refine LeO.ite ?_ ?_)
      | (with_reducible refine LeO.bind ?_ (fun _ => ?_))
      | exact ih0 _ _ _ _ _ _
      | exact ih1 _ _ _ _ _ _
      | exact ih2 _ _ _ _ _ _ _
      | exact whirligigref07_Kinds.mono _ _
      | exact whirligigref07_Most.mono _ _
      | exact whirligigref07_Sum.mono _ _
      | exact whirligigref07_Whole.mono _ _
      | exact LeO.none _
      | refine LeO.ite ?_ ?_
      | refine LeO.bind ?_ (fun _ => ?_)
    · intro y0 y1 y2 y3 y4 y5 y6
      unfold whirligigref07_Make.l1
      repeat' first
      | (with_reducible exact ih0 _ _ _ _ _ _)
      | (with_reducible exact ih1 _ _ _ _ _ _)
      | (with_reducible exact ih2 _ _ _ _ _ _ _)
      | (with_reducible exact whirligigref07_Kinds.mono _ _)
      | (with_reducible exact whirligigref07_Most.mono _ _)
      | (with_reducible exact whirligigref07_Sum.mono _ _)
      | (with_reducible exact whirligigref07_Whole.mono _ _)
      | (with_reducible exact LeO.refl _)
      | (with_reducible exact LeO.none _)
      | (with_reducible refine LeO.ite ?_ ?_)
      | (with_reducible refine LeO.bind ?_ (fun _ => ?_))
      | exact ih0 _ _ _ _ _ _
      | exact ih1 _ _ _ _ _ _
      | exact ih2 _ _ _ _ _ _ _
      | exact whirligigref07_Kinds.mono _ _
      | exact whirligigref07_Most.mono _ _
      | exact whirligigref07_Sum.mono _ _
      | exact whirligigref07_Whole.mono _ _
      | exact LeO.none _
      | refine LeO.ite ?_ ?_
      | refine LeO.bind ?_ (fun _ => ?_)
theorem whirligigref07_Make.mono : ∀ a0 a1 a2 a3 a4 k, LeO (whirligigref07_Make.f k a0 a1 a2 a3 a4) (whirligigref07_Make.f (k + 1) a0 a1 a2 a3 a4) := by
  intro a0 a1 a2 a3 a4 k
  obtain ⟨ih0, ih1, ih2⟩ := whirligigref07_Make.mono_l k
  unfold whirligigref07_Make.f
  repeat' first
      | (with_reducible exact ih0 _ _ _ _ _ _)
      | (with_reducible exact ih1 _ _ _ _ _ _)
      | (with_reducible exact ih2 _ _ _ _ _ _ _)
      | (with_reducible exact whirligigref07_Kinds.mono _ _)
      | (with_reducible exact whirligigref07_Most.mono _ _)
      | (with_reducible exact whirligigref07_Sum.mono _ _)
      | (with_reducible exact whirligigref07_Whole.mono _ _)
      | (with_reducible exact LeO.refl _)
      | (with_reducible exact LeO.none _)
      | (with_reducible refine LeO.ite ?_ ?_)
      | (with_reducible refine LeO.bind ?_ (fun _ => ?_))
      | exact ih0 _ _ _ _ _ _
      | exact ih1 _ _ _ _ _ _
      | exact ih2 _ _ _ _ _ _ _
      | exact whirligigref07_Kinds.mono _ _
      | exact whirligigref07_Most.mono _ _
      | exact whirligigref07_Sum.mono _ _
      | exact whirligigref07_Whole.mono _ _
      | exact LeO.none _
      | refine LeO.ite ?_ ?_
      | refine LeO.bind ?_ (fun _ => ?_)
set_option maxHeartbeats 8000000 in
set_option maxRecDepth 100000 in
theorem whirligigref07_Make.calls (k : Nat) (a0 : ByteArray) (a1 : Int) (a2 : Int) (a3 : Int) (A4 : Option Addr) (c4 : Nat) (l4 : List Int) (r1 : List Int) (r2 : Int) (w : World) (hr4 : Kd.C (Kd.int .u8) w A4 l4.length l4) (hc4 : l4.length ≤ c4) (h : whirligigref07_Make.f k a0 a1 a2 a3 l4 = some (r1, r2)) :
    Calls Try.prog 13 #[.string a0, .int .u8 a1, .int .u8 a2, .int .u8 a3, .slice A4 l4.length c4] w fun e w' => ∃ v0_ : Value, e = .returned (.tuple #[v0_, .int .i64 r2]) ∧ Kd.R (Kd.int .u8) 5 w' w.heap.size (fun _ => True) v0_ r1 ∧ Below w.heap.size w w' := by
  have hu26 := Try.underlying26
  have HR4 := Aside0.mk hr4
  have HC4 := Aside0.mk hc4
  clear hr4 hc4
  have HB := Aside0.mk (Below.refl w.heap.size w)
  have H : (if (a0.size : Int) > 16 then (some (([] : List Int), 1)) else (whirligigref07_Make.l0 k a0 a1 a2 a3 l4 0)) = some (r1, r2) := h
  clear h
  by_cases c6 : (a0.size : Int) > 16
  · rw [if_pos c6] at H
    have c6b0 : decide (16 < (a0.size : Int)) = true := decide_eq_true c6
    have c6b1 : decide (16 < a0.size) = true := decide_eq_true (by omega)
    clear c6
    simp only [Option.some.injEq, Prod.mk.injEq] at H
    obtain ⟨rfl, rfl⟩ := H
    go_enter Try.func13, Try.ntmps13
    go_wp2
    go_ret2
    exact ⟨_, by first | rfl | (simp [errW_none, errW_some] <;> rfl) | (simp [*, errW_none, errW_some] <;> rfl), by first | exact Kd.R_nil _ _ _ _ _ | exact Kd.N_nil _ _ _ _ _ | exact Kd.V_nil _ _ _ _ _ | exact Kd.Q_nil _ _ _ _ _ | exact Kd.S_nil _ _ _ _ _, by repeat (first | (with_reducible first | exact HB.out | apply below_alloc | apply pw_below_drewN | apply below_drew1) | exact HB.out)⟩
  · rw [if_neg c6] at H
    have c6b0 : decide (16 < (a0.size : Int)) = false := decide_eq_false c6
    have c6b1 : decide (16 < a0.size) = false := decide_eq_false (by omega)
    clear c6
    have H' := Aside0.mk H
    clear H
    go_enter Try.func13, Try.ntmps13
    go_wp2
    go_loopg [12] k (fun kq v12 w' => ∃ (x12_1 : Int), v12 = .int .i64 x12_1 ∧ Aside0 (whirligigref07_Make.l0 kq a0 a1 a2 a3 l4 x12_1 = some (r1, r2)) ∧ Aside0 (kq ≤ k) ∧ Aside0 (Below w.heap.size w w'))
    case atStart => exact ⟨(0), (by first | rfl | (simp; done) | (simp [*]; done)), H', ⟨Nat.le_refl _⟩, ⟨by repeat (first | (with_reducible first | exact HB.out | apply below_alloc | apply pw_below_drewN | apply below_drew1) | exact HB.out)⟩⟩
    case round =>
      clear H'
      try clear c1
      try clear p2
      try clear c4
      try clear c6
      try clear c6b0
      try clear c6b1
      obtain ⟨x12_1, rfl, HA, HK1, HB⟩ := hrel
      cases gk with
      | zero => exact absurd HA.out (by simp [whirligigref07_Make.l0])
      | succ k1 =>
        have H := HA.out
        clear HA
        simp only [whirligigref07_Make.l0] at H
        by_cases c7 : x12_1 < (a0.size : Int)
        · rw [if_pos c7] at H
          have c7b0 : decide (x12_1 < (a0.size : Int)) = true := decide_eq_true c7
          clear c7
          by_cases c8 : 0 ≤ x12_1
          · rw [if_pos c8] at H
            have c8b0 : decide (0 ≤ x12_1) = true := decide_eq_true c8
            clear c8
            replace H := Option.bind_eq_some_iff.mp H
            obtain ⟨t250, A100, H⟩ := H
            replace H : (if t250 = true then (whirligigref07_Make.l0 k1 a0 a1 a2 a3 l4 (wrap64 (x12_1 + 1))) else (some (([] : List Int), 1))) = some (r1, r2) := H
            have A10 := Aside0.mk A100
            clear A100
            by_cases c11 : t250 = true
            · subst c11
              have H1 : (whirligigref07_Make.l0 k1 a0 a1 a2 a3 l4 (wrap64 (x12_1 + 1))) = some (r1, r2) := by rw [if_pos rfl] at H; exact H
              clear H
              have H := H1
              clear H1
              have H' := Aside0.mk H
              clear H
              have p9 : 0 ≤ (x12_1 : Int) := of_decide_eq_true (by first | (with_reducible assumption) | assumption)
              have q9 : x12_1 < (a0.size : Int) := of_decide_eq_true (by first | (with_reducible assumption) | assumption)
              have hx9 := bt_at a0 x12_1
              replace p9 := eq_true p9
              replace q9 := eq_true q9
              go_wp2_with (first | ((with_reducible refine gate_callee (f := 27) rfl ?_); refine goesL_ (some 32) rfl rfl Try.func27 (by kernel_rfl) rfl #[.int .u8 (bt a0 x12_1)] rfl (by (try simp only [List.map_toArray, List.map_cons, List.map_nil]); first | done | rfl | (simp only [List.length_drop, List.length_take]; rfl)) ?_; (with_reducible refine (whirligigref07_signs.calls (bt a0 x12_1) true _ A10.out).mono ?_); rintro e w' ⟨rfl, ⟨nd, rfl⟩⟩; refine ⟨_, rfl, ?_⟩))
              go_roundg k1
              case measure => have := HK1.out; omega
              case rel => exact ⟨(wrap64 (x12_1 + 1)), (by first | rfl | (simp; done) | (simp [*]; done)), H', ⟨by have := HK1.out; omega⟩, ⟨by repeat (first | (with_reducible first | exact HB.out | apply below_alloc | apply pw_below_drewN | apply below_drew1) | exact HB.out)⟩⟩
            · replace c11 := Bool.eq_false_iff.mpr c11
              subst c11
              have H1 : (some (([] : List Int), 1)) = some (r1, r2) := by rw [if_neg (show ¬ (false = true) by decide)] at H; exact H
              clear H
              have H := H1
              clear H1
              simp only [Option.some.injEq, Prod.mk.injEq] at H
              obtain ⟨rfl, rfl⟩ := H
              have p9 : 0 ≤ (x12_1 : Int) := of_decide_eq_true (by first | (with_reducible assumption) | assumption)
              have q9 : x12_1 < (a0.size : Int) := of_decide_eq_true (by first | (with_reducible assumption) | assumption)
              have hx9 := bt_at a0 x12_1
              replace p9 := eq_true p9
              replace q9 := eq_true q9
              go_wp2_with (first | ((with_reducible refine gate_callee (f := 27) rfl ?_); refine goesL_ (some 32) rfl rfl Try.func27 (by kernel_rfl) rfl #[.int .u8 (bt a0 x12_1)] rfl (by (try simp only [List.map_toArray, List.map_cons, List.map_nil]); first | done | rfl | (simp only [List.length_drop, List.length_take]; rfl)) ?_; (with_reducible refine (whirligigref07_signs.calls (bt a0 x12_1) false _ A10.out).mono ?_); rintro e w' ⟨rfl, ⟨nd, rfl⟩⟩; refine ⟨_, rfl, ?_⟩))
              go_ret2
              exact ⟨_, by first | rfl | (simp [errW_none, errW_some] <;> rfl) | (simp [*, errW_none, errW_some] <;> rfl), by first | exact Kd.R_nil _ _ _ _ _ | exact Kd.N_nil _ _ _ _ _ | exact Kd.V_nil _ _ _ _ _ | exact Kd.Q_nil _ _ _ _ _ | exact Kd.S_nil _ _ _ _ _, by repeat (first | (with_reducible first | exact HB.out | apply below_alloc | apply pw_below_drewN | apply below_drew1) | exact HB.out)⟩
          · rw [if_neg c8] at H
            exact absurd H (by simp)
        · rw [if_neg c7] at H
          have c7b0 : decide (x12_1 < (a0.size : Int)) = false := decide_eq_false c7
          clear c7
          replace H := Option.bind_eq_some_iff.mp H
          obtain ⟨⟨t251, t252, t253, t254, t255, t256, t257, t258, t259, t260, t261⟩, A120, H⟩ := H
          replace H : (if t261 = true then (if a2 > 8 then (whirligigref07_Make.j1 k1 a0 a1 a2 a3 l4 true) else (if a3 > 5 then (whirligigref07_Make.j1 k1 a0 a1 a2 a3 l4 true) else ((whirligigref07_Most.f k1 a2).bind fun t263 => (whirligigref07_Make.j1 k1 a0 a1 a2 a3 l4 (decide ((l4.length : Int) > (wrap64 (t263 - 336)))))))) else (some (([] : List Int), 4))) = some (r1, r2) := H
          have A12 := Aside0.mk A120
          clear A120
          by_cases c13 : t261 = true
          · subst c13
            have H1 : (if a2 > 8 then (whirligigref07_Make.j1 k1 a0 a1 a2 a3 l4 true) else (if a3 > 5 then (whirligigref07_Make.j1 k1 a0 a1 a2 a3 l4 true) else ((whirligigref07_Most.f k1 a2).bind fun t263 => (whirligigref07_Make.j1 k1 a0 a1 a2 a3 l4 (decide ((l4.length : Int) > (wrap64 (t263 - 336)))))))) = some (r1, r2) := by rw [if_pos rfl] at H; exact H
            clear H
            have H := H1
            clear H1
            have HC14 := Aside0.mk H
            clear H
            go_upto_region 11 with (first | ((with_reducible refine gate_callee (f := 25) rfl ?_); refine goesL_ (some 36) rfl rfl Try.func25 (by kernel_rfl) rfl #[.int .u8 a1] rfl (by (try simp only [List.map_toArray, List.map_cons, List.map_nil]); first | done | rfl | (simp only [List.length_drop, List.length_take]; rfl)) ?_; (with_reducible refine (whirligigref07_Kinds.calls k1 a1 t251 t252 t253 t254 t255 t256 t257 t258 t259 t260 true _ A12.out).mono ?_); rintro e w15 ⟨rfl, hb⟩; refine ⟨_, rfl, ?_⟩; have n0_ := Aside0.mk (below_step (by repeat (first | (with_reducible first | exact HB.out | apply below_alloc | apply pw_below_drewN | apply below_drew1) | exact HB.out)) hb); clear HB; have HB := n0_; clear n0_; (try clear hb); (try clear hb2); (try clear hk); (try clear hi)) | ((with_reducible refine gate_dst (N := 13) rfl ?_); (try (refine gate_guard (by rfl) ?_; dsimp only)); refine box_event ?hg (N := 13) ?hd (cs := #[.string (⟨#[]⟩ : ByteArray), .int .u8 0, .int .i64 0, .bool false, .bool false, .bool false, .int .i64 0, .int .i64 0, .int .u8 0, .int .u16 0]) (t := 26) ?hr ?_; (case hd => rfl); (case hg => rfl); (case hr => first | (go_simp; done) | (go_simp; rfl)); intro gb262 hg w16 hbox hb; have n0_ := Aside0.mk (below_step (by repeat (first | (with_reducible first | exact HB.out | apply below_alloc | apply pw_below_drewN | apply below_drew1) | exact HB.out)) hb); have n1_ := Aside0.mk (hbox); have n2_ := Aside0.mk ((by rw [hg]; exact (below_size (by repeat (first | (with_reducible first | exact HB.out | apply below_alloc | apply pw_below_drewN | apply below_drew1) | exact HB.out))) : w.heap.size ≤ gb262)); have n3_ := Aside0.mk ((by rw [hg]; exact (below_size (by repeat (first | (with_reducible first | exact HB.out | apply below_alloc | apply pw_below_drewN | apply below_drew1) | exact HB.out))) : w.heap.size ≤ gb262)); clear HB; have HB := n0_; have BK262 := n1_; have GW262 := n2_; have GE262 := n3_; clear n0_ n1_ n2_ n3_; clear hb hbox hg; have hcz17_0 : w16.cell? ⟨gb262, 0, none⟩ = some (.string (⟨#[]⟩ : ByteArray)) := (blk_cell BK262.out 0).trans rfl; have hcz17_1 : w16.cell? ⟨gb262, 1, none⟩ = some (.int .u8 0) := (blk_cell BK262.out 1).trans rfl; have hcz17_2 : w16.cell? ⟨gb262, 2, none⟩ = some (.int .i64 0) := (blk_cell BK262.out 2).trans rfl; have hcz17_3 : w16.cell? ⟨gb262, 3, none⟩ = some (.bool false) := (blk_cell BK262.out 3).trans rfl; have hcz17_4 : w16.cell? ⟨gb262, 4, none⟩ = some (.bool false) := (blk_cell BK262.out 4).trans rfl; have hcz17_5 : w16.cell? ⟨gb262, 5, none⟩ = some (.bool false) := (blk_cell BK262.out 5).trans rfl; have hcz17_6 : w16.cell? ⟨gb262, 6, none⟩ = some (.int .i64 0) := (blk_cell BK262.out 6).trans rfl; have hcz17_7 : w16.cell? ⟨gb262, 7, none⟩ = some (.int .i64 0) := (blk_cell BK262.out 7).trans rfl; have hcz17_8 : w16.cell? ⟨gb262, 8, none⟩ = some (.int .u8 0) := (blk_cell BK262.out 8).trans rfl; have hcz17_9 : w16.cell? ⟨gb262, 9, none⟩ = some (.int .u16 0) := (blk_cell BK262.out 9).trans rfl; have hfz17_0 := blk_frozen BK262.out 0; have hfz17_1 := blk_frozen BK262.out 1; have hfz17_2 := blk_frozen BK262.out 2; have hfz17_3 := blk_frozen BK262.out 3; have hfz17_4 := blk_frozen BK262.out 4; have hfz17_5 := blk_frozen BK262.out 5; have hfz17_6 := blk_frozen BK262.out 6; have hfz17_7 := blk_frozen BK262.out 7; have hfz17_8 := blk_frozen BK262.out 8; have hfz17_9 := blk_frozen BK262.out 9))
            (try simp only [Act.put, List.setIfInBounds_toArray, List.set_cons_zero, List.set_cons_succ])
            go_cut [54] (fun v54 wc => ∃ (kq : Nat) (x54_13 : Bool), v54 = .bool x54_13 ∧ Aside0 (whirligigref07_Make.j1 kq a0 a1 a2 a3 l4 x54_13 = some (r1, r2)) ∧ Aside0 (kq ≤ k1) ∧ Aside0 (wc.heap[gb262]? = some (.cells #[.string t251, .int .u8 t252, .int .i64 t253, .bool t254, .bool t255, .bool t256, .int .i64 t257, .int .i64 t258, .int .u8 t259, .int .u16 t260] 26 (0, 0))) ∧ Aside0 (Below w.heap.size w wc))
            case first =>
              have H := HC14.out
              clear HC14
              by_cases c18 : a2 > 8
              · rw [if_pos c18] at H
                have c18b0 : decide (8 < a2) = true := decide_eq_true c18
                clear c18
                (first | rw [c18b0] | (simp only [i64_w, i32_w]; rw [c18b0]) | skip)
                have H' := Aside0.mk H
                clear H
                go_wp2
                go_meet
                case rel => exact ⟨_, (true), (by first | rfl | (simp; done) | (simp [*]; done)), H', ⟨by have := HK1.out; first | omega | exact Nat.le_refl _⟩, ⟨by (with_reducible repeat (first | refine blk_drewN ?_ _ | refine blk_drew ?_ | refine blk_alloc ?_ _)); refine blk_put (cs := #[.string t251, .int .u8 t252, .int .i64 t253, .bool t254, .bool t255, .bool t256, .int .i64 t257, .int .i64 t258, .int .u8 t259, .int .u16 0]) ?_ 9 _ rfl; (with_reducible repeat (first | refine blk_drewN ?_ _ | refine blk_drew ?_ | refine blk_alloc ?_ _)); refine blk_put (cs := #[.string t251, .int .u8 t252, .int .i64 t253, .bool t254, .bool t255, .bool t256, .int .i64 t257, .int .i64 t258, .int .u8 0, .int .u16 0]) ?_ 8 _ rfl; (with_reducible repeat (first | refine blk_drewN ?_ _ | refine blk_drew ?_ | refine blk_alloc ?_ _)); refine blk_put (cs := #[.string t251, .int .u8 t252, .int .i64 t253, .bool t254, .bool t255, .bool t256, .int .i64 t257, .int .i64 0, .int .u8 0, .int .u16 0]) ?_ 7 _ rfl; (with_reducible repeat (first | refine blk_drewN ?_ _ | refine blk_drew ?_ | refine blk_alloc ?_ _)); refine blk_put (cs := #[.string t251, .int .u8 t252, .int .i64 t253, .bool t254, .bool t255, .bool t256, .int .i64 0, .int .i64 0, .int .u8 0, .int .u16 0]) ?_ 6 _ rfl; (with_reducible repeat (first | refine blk_drewN ?_ _ | refine blk_drew ?_ | refine blk_alloc ?_ _)); refine blk_put (cs := #[.string t251, .int .u8 t252, .int .i64 t253, .bool t254, .bool t255, .bool false, .int .i64 0, .int .i64 0, .int .u8 0, .int .u16 0]) ?_ 5 _ rfl; (with_reducible repeat (first | refine blk_drewN ?_ _ | refine blk_drew ?_ | refine blk_alloc ?_ _)); refine blk_put (cs := #[.string t251, .int .u8 t252, .int .i64 t253, .bool t254, .bool false, .bool false, .int .i64 0, .int .i64 0, .int .u8 0, .int .u16 0]) ?_ 4 _ rfl; (with_reducible repeat (first | refine blk_drewN ?_ _ | refine blk_drew ?_ | refine blk_alloc ?_ _)); refine blk_put (cs := #[.string t251, .int .u8 t252, .int .i64 t253, .bool false, .bool false, .bool false, .int .i64 0, .int .i64 0, .int .u8 0, .int .u16 0]) ?_ 3 _ rfl; (with_reducible repeat (first | refine blk_drewN ?_ _ | refine blk_drew ?_ | refine blk_alloc ?_ _)); refine blk_put (cs := #[.string t251, .int .u8 t252, .int .i64 0, .bool false, .bool false, .bool false, .int .i64 0, .int .i64 0, .int .u8 0, .int .u16 0]) ?_ 2 _ rfl; (with_reducible repeat (first | refine blk_drewN ?_ _ | refine blk_drew ?_ | refine blk_alloc ?_ _)); refine blk_put (cs := #[.string t251, .int .u8 0, .int .i64 0, .bool false, .bool false, .bool false, .int .i64 0, .int .i64 0, .int .u8 0, .int .u16 0]) ?_ 1 _ rfl; (with_reducible repeat (first | refine blk_drewN ?_ _ | refine blk_drew ?_ | refine blk_alloc ?_ _)); refine blk_put (cs := #[.string (⟨#[]⟩ : ByteArray), .int .u8 0, .int .i64 0, .bool false, .bool false, .bool false, .int .i64 0, .int .i64 0, .int .u8 0, .int .u16 0]) ?_ 0 _ rfl; (with_reducible repeat (first | refine blk_drewN ?_ _ | refine blk_drew ?_ | refine blk_alloc ?_ _)); exact BK262.out⟩, ⟨by repeat (first | (with_reducible first | exact HB.out | apply below_alloc | apply pw_below_drewN | apply below_drew1 | refine below_set ?_ GE262.out) | exact HB.out)⟩⟩
              · rw [if_neg c18] at H
                have c18b0 : decide (8 < a2) = false := decide_eq_false c18
                clear c18
                (first | rw [c18b0] | (simp only [i64_w, i32_w]; rw [c18b0]) | skip)
                by_cases c19 : a3 > 5
                · rw [if_pos c19] at H
                  have c19b0 : decide (5 < a3) = true := decide_eq_true c19
                  clear c19
                  have H' := Aside0.mk H
                  clear H
                  go_wp2
                  go_meet
                  case rel => exact ⟨_, (true), (by first | rfl | (simp; done) | (simp [*]; done)), H', ⟨by have := HK1.out; first | omega | exact Nat.le_refl _⟩, ⟨by (with_reducible repeat (first | refine blk_drewN ?_ _ | refine blk_drew ?_ | refine blk_alloc ?_ _)); refine blk_put (cs := #[.string t251, .int .u8 t252, .int .i64 t253, .bool t254, .bool t255, .bool t256, .int .i64 t257, .int .i64 t258, .int .u8 t259, .int .u16 0]) ?_ 9 _ rfl; (with_reducible repeat (first | refine blk_drewN ?_ _ | refine blk_drew ?_ | refine blk_alloc ?_ _)); refine blk_put (cs := #[.string t251, .int .u8 t252, .int .i64 t253, .bool t254, .bool t255, .bool t256, .int .i64 t257, .int .i64 t258, .int .u8 0, .int .u16 0]) ?_ 8 _ rfl; (with_reducible repeat (first | refine blk_drewN ?_ _ | refine blk_drew ?_ | refine blk_alloc ?_ _)); refine blk_put (cs := #[.string t251, .int .u8 t252, .int .i64 t253, .bool t254, .bool t255, .bool t256, .int .i64 t257, .int .i64 0, .int .u8 0, .int .u16 0]) ?_ 7 _ rfl; (with_reducible repeat (first | refine blk_drewN ?_ _ | refine blk_drew ?_ | refine blk_alloc ?_ _)); refine blk_put (cs := #[.string t251, .int .u8 t252, .int .i64 t253, .bool t254, .bool t255, .bool t256, .int .i64 0, .int .i64 0, .int .u8 0, .int .u16 0]) ?_ 6 _ rfl; (with_reducible repeat (first | refine blk_drewN ?_ _ | refine blk_drew ?_ | refine blk_alloc ?_ _)); refine blk_put (cs := #[.string t251, .int .u8 t252, .int .i64 t253, .bool t254, .bool t255, .bool false, .int .i64 0, .int .i64 0, .int .u8 0, .int .u16 0]) ?_ 5 _ rfl; (with_reducible repeat (first | refine blk_drewN ?_ _ | refine blk_drew ?_ | refine blk_alloc ?_ _)); refine blk_put (cs := #[.string t251, .int .u8 t252, .int .i64 t253, .bool t254, .bool false, .bool false, .int .i64 0, .int .i64 0, .int .u8 0, .int .u16 0]) ?_ 4 _ rfl; (with_reducible repeat (first | refine blk_drewN ?_ _ | refine blk_drew ?_ | refine blk_alloc ?_ _)); refine blk_put (cs := #[.string t251, .int .u8 t252, .int .i64 t253, .bool false, .bool false, .bool false, .int .i64 0, .int .i64 0, .int .u8 0, .int .u16 0]) ?_ 3 _ rfl; (with_reducible repeat (first | refine blk_drewN ?_ _ | refine blk_drew ?_ | refine blk_alloc ?_ _)); refine blk_put (cs := #[.string t251, .int .u8 t252, .int .i64 0, .bool false, .bool false, .bool false, .int .i64 0, .int .i64 0, .int .u8 0, .int .u16 0]) ?_ 2 _ rfl; (with_reducible repeat (first | refine blk_drewN ?_ _ | refine blk_drew ?_ | refine blk_alloc ?_ _)); refine blk_put (cs := #[.string t251, .int .u8 0, .int .i64 0, .bool false, .bool false, .bool false, .int .i64 0, .int .i64 0, .int .u8 0, .int .u16 0]) ?_ 1 _ rfl; (with_reducible repeat (first | refine blk_drewN ?_ _ | refine blk_drew ?_ | refine blk_alloc ?_ _)); refine blk_put (cs := #[.string (⟨#[]⟩ : ByteArray), .int .u8 0, .int .i64 0, .bool false, .bool false, .bool false, .int .i64 0, .int .i64 0, .int .u8 0, .int .u16 0]) ?_ 0 _ rfl; (with_reducible repeat (first | refine blk_drewN ?_ _ | refine blk_drew ?_ | refine blk_alloc ?_ _)); exact BK262.out⟩, ⟨by repeat (first | (with_reducible first | exact HB.out | apply below_alloc | apply pw_below_drewN | apply below_drew1 | refine below_set ?_ GE262.out) | exact HB.out)⟩⟩
                · rw [if_neg c19] at H
                  have c19b0 : decide (5 < a3) = false := decide_eq_false c19
                  clear c19
                  replace H := Option.bind_eq_some_iff.mp H
                  obtain ⟨t263, A200, H⟩ := H
                  replace H : (whirligigref07_Make.j1 k1 a0 a1 a2 a3 l4 (decide ((l4.length : Int) > (wrap64 (t263 - 336))))) = some (r1, r2) := H
                  have A20 := Aside0.mk A200
                  clear A200
                  have H' := Aside0.mk H
                  clear H
                  go_wp2_with (first | (go_at_call 26; (with_reducible refine (whirligigref07_Most.calls k1 a2 t263 _ A20.out).mono ?_); rintro e w' ⟨rfl, ⟨nd, rfl⟩⟩))
                  go_meet
                  case rel => exact ⟨_, (decide ((l4.length : Int) > (wrap64 (t263 - 336)))), (by first | rfl | (simp; done) | (simp [*]; done)), H', ⟨by have := HK1.out; first | omega | exact Nat.le_refl _⟩, ⟨by (with_reducible repeat (first | refine blk_drewN ?_ _ | refine blk_drew ?_ | refine blk_alloc ?_ _)); refine blk_put (cs := #[.string t251, .int .u8 t252, .int .i64 t253, .bool t254, .bool t255, .bool t256, .int .i64 t257, .int .i64 t258, .int .u8 t259, .int .u16 0]) ?_ 9 _ rfl; (with_reducible repeat (first | refine blk_drewN ?_ _ | refine blk_drew ?_ | refine blk_alloc ?_ _)); refine blk_put (cs := #[.string t251, .int .u8 t252, .int .i64 t253, .bool t254, .bool t255, .bool t256, .int .i64 t257, .int .i64 t258, .int .u8 0, .int .u16 0]) ?_ 8 _ rfl; (with_reducible repeat (first | refine blk_drewN ?_ _ | refine blk_drew ?_ | refine blk_alloc ?_ _)); refine blk_put (cs := #[.string t251, .int .u8 t252, .int .i64 t253, .bool t254, .bool t255, .bool t256, .int .i64 t257, .int .i64 0, .int .u8 0, .int .u16 0]) ?_ 7 _ rfl; (with_reducible repeat (first | refine blk_drewN ?_ _ | refine blk_drew ?_ | refine blk_alloc ?_ _)); refine blk_put (cs := #[.string t251, .int .u8 t252, .int .i64 t253, .bool t254, .bool t255, .bool t256, .int .i64 0, .int .i64 0, .int .u8 0, .int .u16 0]) ?_ 6 _ rfl; (with_reducible repeat (first | refine blk_drewN ?_ _ | refine blk_drew ?_ | refine blk_alloc ?_ _)); refine blk_put (cs := #[.string t251, .int .u8 t252, .int .i64 t253, .bool t254, .bool t255, .bool false, .int .i64 0, .int .i64 0, .int .u8 0, .int .u16 0]) ?_ 5 _ rfl; (with_reducible repeat (first | refine blk_drewN ?_ _ | refine blk_drew ?_ | refine blk_alloc ?_ _)); refine blk_put (cs := #[.string t251, .int .u8 t252, .int .i64 t253, .bool t254, .bool false, .bool false, .int .i64 0, .int .i64 0, .int .u8 0, .int .u16 0]) ?_ 4 _ rfl; (with_reducible repeat (first | refine blk_drewN ?_ _ | refine blk_drew ?_ | refine blk_alloc ?_ _)); refine blk_put (cs := #[.string t251, .int .u8 t252, .int .i64 t253, .bool false, .bool false, .bool false, .int .i64 0, .int .i64 0, .int .u8 0, .int .u16 0]) ?_ 3 _ rfl; (with_reducible repeat (first | refine blk_drewN ?_ _ | refine blk_drew ?_ | refine blk_alloc ?_ _)); refine blk_put (cs := #[.string t251, .int .u8 t252, .int .i64 0, .bool false, .bool false, .bool false, .int .i64 0, .int .i64 0, .int .u8 0, .int .u16 0]) ?_ 2 _ rfl; (with_reducible repeat (first | refine blk_drewN ?_ _ | refine blk_drew ?_ | refine blk_alloc ?_ _)); refine blk_put (cs := #[.string t251, .int .u8 0, .int .i64 0, .bool false, .bool false, .bool false, .int .i64 0, .int .i64 0, .int .u8 0, .int .u16 0]) ?_ 1 _ rfl; (with_reducible repeat (first | refine blk_drewN ?_ _ | refine blk_drew ?_ | refine blk_alloc ?_ _)); refine blk_put (cs := #[.string (⟨#[]⟩ : ByteArray), .int .u8 0, .int .i64 0, .bool false, .bool false, .bool false, .int .i64 0, .int .i64 0, .int .u8 0, .int .u16 0]) ?_ 0 _ rfl; (with_reducible repeat (first | refine blk_drewN ?_ _ | refine blk_drew ?_ | refine blk_alloc ?_ _)); exact BK262.out⟩, ⟨by repeat (first | (with_reducible first | exact HB.out | apply below_alloc | apply pw_below_drewN | apply below_drew1 | refine below_set ?_ GE262.out) | exact HB.out)⟩⟩
            case rest =>
              clear HC14
              try clear c1
              try clear c2
              try clear p2
              try clear c4
              try clear c6
              try clear c6b0
              try clear c6b1
              try clear p6
              try clear c7
              try clear c7b0
              try clear c8
              try clear c8b0
              try clear p9
              try clear q9
              try clear hx9
              try clear c11
              try clear c13
              try clear c18
              try clear c18b0
              try clear c19
              try clear c19b0
              try clear hcz17_0
              try clear hcz17_1
              try clear hcz17_2
              try clear hcz17_3
              try clear hcz17_4
              try clear hcz17_5
              try clear hcz17_6
              try clear hcz17_7
              try clear hcz17_8
              try clear hcz17_9
              try clear hfz17_0
              try clear hfz17_1
              try clear hfz17_2
              try clear hfz17_3
              try clear hfz17_4
              try clear hfz17_5
              try clear hfz17_6
              try clear hfz17_7
              try clear hfz17_8
              try clear hfz17_9
              try clear p2
              try clear p9
              try clear q9
              obtain ⟨kq, x54_13, rfl, HA, HJ13, BK262, HB⟩ := hcut
              cases kq with
              | zero => exact absurd HA.out (by simp [whirligigref07_Make.j1])
              | succ kj13 =>
                have H := HA.out
                clear HA
                simp only [whirligigref07_Make.j1] at H
                by_cases c21 : x54_13 = true
                · subst c21
                  have H1 : (some (([] : List Int), 5)) = some (r1, r2) := by rw [if_pos rfl] at H; exact H
                  clear H
                  have H := H1
                  clear H1
                  simp only [Option.some.injEq, Prod.mk.injEq] at H
                  obtain ⟨rfl, rfl⟩ := H
                  go_wp2
                  go_ret2
                  exact ⟨_, by first | rfl | (simp [errW_none, errW_some] <;> rfl) | (simp [*, errW_none, errW_some] <;> rfl), by first | exact Kd.R_nil _ _ _ _ _ | exact Kd.N_nil _ _ _ _ _ | exact Kd.V_nil _ _ _ _ _ | exact Kd.Q_nil _ _ _ _ _ | exact Kd.S_nil _ _ _ _ _, by repeat (first | (with_reducible first | exact HB.out | apply below_alloc | apply pw_below_drewN | apply below_drew1 | refine below_set ?_ GE262.out) | exact HB.out)⟩
                · replace c21 := Bool.eq_false_iff.mpr c21
                  subst c21
                  have H1 : (if 336 ≤ 281474976710656 then ((some (List.replicate 336 0 : List Int)).bind fun y264 => (if 257 < (y264.length : Int) then (if 258 < (y264.length : Int) then (if 259 < (y264.length : Int) then (whirligigref07_Make.l1 kj13 a0 a1 a2 a3 l4 (((y264.set (257 : Int).toNat 195).set (258 : Int).toNat 80).set (259 : Int).toNat 1) 0) else (none)) else (none)) else (none))) else (none)) = some (r1, r2) := by rw [if_neg (show ¬ (false = true) by decide)] at H; exact H
                  clear H
                  have H := H1
                  clear H1
                  by_cases c22 : 336 ≤ 281474976710656
                  · rw [if_pos c22] at H
                    have c22b0 := eq_true c22
                    have c22b1 : decide (336 ≤ 281474976710656) = true := decide_eq_true c22
                    clear c22
                    obtain ⟨y264, hy264⟩ : ∃ y_ : List Int, y_ = (List.replicate 336 0) := ⟨_, rfl⟩
                    replace H : (if 257 < (y264.length : Int) then (if 258 < (y264.length : Int) then (if 259 < (y264.length : Int) then (whirligigref07_Make.l1 kj13 a0 a1 a2 a3 l4 (((y264.set (257 : Int).toNat 195).set (258 : Int).toNat 80).set (259 : Int).toNat 1) 0) else (none)) else (none)) else (none)) = some (r1, r2) := by first | (rw [hy264]; with_reducible exact H) | (have H2_ := (Option.bind_some _ _).symm.trans H; rw [hy264]; with_reducible exact H2_) | (have H2_ := (Option.bind_some _ _).symm.trans H; with_reducible exact H2_) | with_reducible exact H | (rw [hy264]; exact H) | exact H
                    have Ny264 := Aside0.mk hy264
                    clear hy264
                    by_cases c23 : 257 < (y264.length : Int)
                    · rw [if_pos c23] at H
                      have c23b0 : decide (257 < (y264.length : Int)) = true := decide_eq_true c23
                      have c23b1 : decide (257 < y264.length) = true := decide_eq_true (by omega)
                      clear c23
                      obtain ⟨y267, hy267⟩ : ∃ y_ : List Int, y_ = (y264.set (257 : Int).toNat 195) := ⟨_, rfl⟩
                      replace H : (if 258 < (y264.length : Int) then (if 259 < (y264.length : Int) then (whirligigref07_Make.l1 kj13 a0 a1 a2 a3 l4 ((y267.set (258 : Int).toNat 80).set (259 : Int).toNat 1) 0) else (none)) else (none)) = some (r1, r2) := by first | (rw [hy267]; with_reducible exact H) | (have H2_ := (Option.bind_some _ _).symm.trans H; rw [hy267]; with_reducible exact H2_) | (have H2_ := (Option.bind_some _ _).symm.trans H; with_reducible exact H2_) | with_reducible exact H | (rw [hy267]; exact H) | exact H
                      have Ny267 := Aside0.mk hy267
                      clear hy267
                      by_cases c25 : 258 < (y264.length : Int)
                      · rw [if_pos c25] at H
                        have c25b0 : decide (258 < (y264.length : Int)) = true := decide_eq_true c25
                        have c25b1 : decide (258 < y264.length) = true := decide_eq_true (by omega)
                        clear c25
                        obtain ⟨y268, hy268⟩ : ∃ y_ : List Int, y_ = (y267.set (258 : Int).toNat 80) := ⟨_, rfl⟩
                        replace H : (if 259 < (y264.length : Int) then (whirligigref07_Make.l1 kj13 a0 a1 a2 a3 l4 (y268.set (259 : Int).toNat 1) 0) else (none)) = some (r1, r2) := by first | (rw [hy268]; with_reducible exact H) | (have H2_ := (Option.bind_some _ _).symm.trans H; rw [hy268]; with_reducible exact H2_) | (have H2_ := (Option.bind_some _ _).symm.trans H; with_reducible exact H2_) | with_reducible exact H | (rw [hy268]; exact H) | exact H
                        have Ny268 := Aside0.mk hy268
                        clear hy268
                        by_cases c27 : 259 < (y264.length : Int)
                        · rw [if_pos c27] at H
                          have c27b0 : decide (259 < (y264.length : Int)) = true := decide_eq_true c27
                          have c27b1 : decide (259 < y264.length) = true := decide_eq_true (by omega)
                          clear c27
                          obtain ⟨y269, hy269⟩ : ∃ y_ : List Int, y_ = (y268.set (259 : Int).toNat 1) := ⟨_, rfl⟩
                          replace H : (whirligigref07_Make.l1 kj13 a0 a1 a2 a3 l4 y269 0) = some (r1, r2) := by first | (rw [hy269]; with_reducible exact H) | (have H2_ := (Option.bind_some _ _).symm.trans H; rw [hy269]; with_reducible exact H2_) | (have H2_ := (Option.bind_some _ _).symm.trans H; with_reducible exact H2_) | with_reducible exact H | (rw [hy269]; exact H) | exact H
                          have Ny269 := Aside0.mk hy269
                          clear hy269
                          have H' := Aside0.mk H
                          clear H
                          go_wp2_with (first | ((with_reducible refine gate_dst (N := 55) rfl ?_); (try (refine gate_guard (by rfl) ?_; dsimp only)); refine Kd.R_make (Kd.int .u8) _ 5 rfl (N := 55) rfl 22 _ _ rfl 336 rfl rfl Try.underlying22 (.int .u8 0) 1 info5 rfl (by decide) (by omega) 0 (ok := fun _ => True) (okp := fun _ => True) rfl (fun _ hk => hk) trivial (by omega) (by omega) (Below.refl _ _) (Nat.le_refl _) ?_; intro v265 w29 ho30 hb hg_ hnew_; clear hg_ hnew_; (first | rw [← Ny264.out] at ho30 | (simp only [Int.reduceToNat] at ho30; rw [← Ny264.out] at ho30)); have n0_ := Aside0.mk (Kd.R_lower ho30 (below_size (by repeat (first | (with_reducible first | exact HB.out | apply below_alloc | apply pw_below_drewN | apply below_drew1 | refine below_set ?_ GE262.out) | exact HB.out)))); have n1_ := Aside0.mk (blk_below (g := gb262) (o := .cells #[.string t251, .int .u8 t252, .int .i64 t253, .bool t254, .bool t255, .bool t256, .int .i64 t257, .int .i64 t258, .int .u8 t259, .int .u16 t260] 26 (0, 0)) (by (with_reducible repeat (first | refine blk_drewN ?_ _ | refine blk_drew ?_ | refine blk_alloc ?_ _)); exact BK262.out) hb); have n2_ := Aside0.mk (below_step (by repeat (first | (with_reducible first | exact HB.out | apply below_alloc | apply pw_below_drewN | apply below_drew1 | refine below_set ?_ GE262.out) | exact HB.out)) hb); clear BK262; clear HB; have HO266 := n0_; have BK262 := n1_; have HB := n2_; clear n0_ n1_ n2_; clear hb ho30; have p24 : 0 ≤ (257 : Int) := (by omega); have q24 : (257 : Int) < ((y264.length : Int) : Int) := of_decide_eq_true (by first | (with_reducible assumption) | assumption); have qi24 : (257 < y264.length) = True := eq_true (by omega); obtain ⟨go24, co24, eo24, gb24, gl24, cl24, HG24⟩ := Kd.R_form HO266.out (by omega); (first | cases eo24 | (injection eo24 with ea_ en_ ec_; (first | subst ea_ | (injection ea_ with ea_; subst ea_)); subst ec_; clear en_)); have GB24 := Aside0.mk gb24; have GG24 := Aside0.mk HG24; clear gb24 gl24 HG24; obtain ⟨hx24_0, hf24_0⟩ := Kd.R_celln 0 HO266.out (257 : Int) p24 q24; (try rw [show ((257 : Int)).toNat = 257 from rfl] at hx24_0); (try simp only [Nat.reduceMul, Nat.zero_mul, Nat.zero_add, Nat.reduceAdd] at hx24_0); (try rw [show ((257 : Int)).toNat = 257 from rfl] at hf24_0); (try simp only [Nat.reduceMul, Nat.zero_mul, Nat.zero_add, Nat.reduceAdd] at hf24_0); replace p24 := eq_true p24; replace q24 := eq_true q24; obtain ⟨hy31_, hz31_⟩ := Kd.R_celln 0 HO266.out (257 : Int) (by omega) (of_decide_eq_true (by first | (with_reducible assumption) | assumption)); (try simp only [Int.reduceToNat, Int.toNat_zero, Int.toNat_ofNat, Nat.reduceMul, Nat.zero_mul, Nat.zero_add] at hy31_ hz31_); (try rw [show ((257 : Int)).toNat = 257 from rfl] at hy31_); (try rw [show ((257 : Int)).toNat = 257 from rfl] at hz31_); have HP31 := Kd.R_putg HO266.out (257 : Int) 195) | ((with_reducible refine gate_store (t := 5) (p := 57) rfl ?_); refine store_event (t := 5) (p := 57) (v := ?vo_w32) (w1 := (w29.setCell ⟨go24, (257 : Int).toNat, none⟩ (.int .u8 195))) ?hg ?ho ?hn ?hr ?_; (case ho => rfl); (case hg => rfl); (case hn => rfl); (case hr => first | (go_simp; done) | (go_simp; rfl)); intro w32 hw; have hg : w29.grownBy w32 (some go24) := (by rw [hw]; exact HP31.2); have hp_ : Kd.R (Kd.int .u8) 5 w32 w.heap.size (fun _ => True) (.slice (some ⟨go24, 0, none⟩) y264.length co24) y267 := (by rw [hw, Ny267.out]; exact HP31.1); clear HP31; have n0_ := Aside0.mk (blk_grown (g := gb262) (o := .cells #[.string t251, .int .u8 t252, .int .i64 t253, .bool t254, .bool t255, .bool t256, .int .i64 t257, .int .i64 t258, .int .u8 t259, .int .u16 t260] 26 (0, 0)) (by (with_reducible repeat (first | refine blk_drewN ?_ _ | refine blk_drew ?_ | refine blk_alloc ?_ _)); exact BK262.out) hg (Kd.R_ne HO266.out BK262.out (by decide))); have n1_ := Aside0.mk (hp_); have n2_ := Aside0.mk ((by rw [hw]; exact below_set (HB.out) GB24.out : Below w.heap.size w w32)); clear BK262; clear HO266; clear HB; have BK262 := n0_; have HO266 := n1_; have HB := n2_; clear n0_ n1_ n2_; clear hg hw hp_; have p26 : 0 ≤ (258 : Int) := (by omega); have q26 : (258 : Int) < ((y264.length : Int) : Int) := of_decide_eq_true (by first | (with_reducible assumption) | assumption); have qi26 : (258 < y264.length) = True := eq_true (by omega); obtain ⟨hx26_0, hf26_0⟩ := Kd.R_celln 0 HO266.out (258 : Int) p26 q26; (try rw [show ((258 : Int)).toNat = 258 from rfl] at hx26_0); (try simp only [Nat.reduceMul, Nat.zero_mul, Nat.zero_add, Nat.reduceAdd] at hx26_0); (try rw [show ((258 : Int)).toNat = 258 from rfl] at hf26_0); (try simp only [Nat.reduceMul, Nat.zero_mul, Nat.zero_add, Nat.reduceAdd] at hf26_0); replace p26 := eq_true p26; replace q26 := eq_true q26; obtain ⟨hy33_, hz33_⟩ := Kd.R_celln 0 HO266.out (258 : Int) (by omega) (of_decide_eq_true (by first | (with_reducible assumption) | assumption)); (try simp only [Int.reduceToNat, Int.toNat_zero, Int.toNat_ofNat, Nat.reduceMul, Nat.zero_mul, Nat.zero_add] at hy33_ hz33_); (try rw [show ((258 : Int)).toNat = 258 from rfl] at hy33_); (try rw [show ((258 : Int)).toNat = 258 from rfl] at hz33_); have HP33 := Kd.R_putg HO266.out (258 : Int) 80) | ((with_reducible refine gate_store (t := 5) (p := 59) rfl ?_); refine store_event (t := 5) (p := 59) (v := ?vo_w34) (w1 := (w32.setCell ⟨go24, (258 : Int).toNat, none⟩ (.int .u8 80))) ?hg ?ho ?hn ?hr ?_; (case ho => rfl); (case hg => rfl); (case hn => rfl); (case hr => first | (go_simp; done) | (go_simp; rfl)); intro w34 hw; have hg : w32.grownBy w34 (some go24) := (by rw [hw]; exact HP33.2); have hp_ : Kd.R (Kd.int .u8) 5 w34 w.heap.size (fun _ => True) (.slice (some ⟨go24, 0, none⟩) y264.length co24) y268 := (by rw [hw, Ny268.out]; exact HP33.1); clear HP33; have n0_ := Aside0.mk (blk_grown (g := gb262) (o := .cells #[.string t251, .int .u8 t252, .int .i64 t253, .bool t254, .bool t255, .bool t256, .int .i64 t257, .int .i64 t258, .int .u8 t259, .int .u16 t260] 26 (0, 0)) (by (with_reducible repeat (first | refine blk_drewN ?_ _ | refine blk_drew ?_ | refine blk_alloc ?_ _)); exact BK262.out) hg (Kd.R_ne HO266.out BK262.out (by decide))); have n1_ := Aside0.mk (hp_); have n2_ := Aside0.mk ((by rw [hw]; exact below_set (HB.out) GB24.out : Below w.heap.size w w34)); clear BK262; clear HO266; clear HB; have BK262 := n0_; have HO266 := n1_; have HB := n2_; clear n0_ n1_ n2_; clear hg hw hp_; have p28 : 0 ≤ (259 : Int) := (by omega); have q28 : (259 : Int) < ((y264.length : Int) : Int) := of_decide_eq_true (by first | (with_reducible assumption) | assumption); have qi28 : (259 < y264.length) = True := eq_true (by omega); obtain ⟨hx28_0, hf28_0⟩ := Kd.R_celln 0 HO266.out (259 : Int) p28 q28; (try rw [show ((259 : Int)).toNat = 259 from rfl] at hx28_0); (try simp only [Nat.reduceMul, Nat.zero_mul, Nat.zero_add, Nat.reduceAdd] at hx28_0); (try rw [show ((259 : Int)).toNat = 259 from rfl] at hf28_0); (try simp only [Nat.reduceMul, Nat.zero_mul, Nat.zero_add, Nat.reduceAdd] at hf28_0); replace p28 := eq_true p28; replace q28 := eq_true q28; obtain ⟨hy35_, hz35_⟩ := Kd.R_celln 0 HO266.out (259 : Int) (by omega) (of_decide_eq_true (by first | (with_reducible assumption) | assumption)); (try simp only [Int.reduceToNat, Int.toNat_zero, Int.toNat_ofNat, Nat.reduceMul, Nat.zero_mul, Nat.zero_add] at hy35_ hz35_); (try rw [show ((259 : Int)).toNat = 259 from rfl] at hy35_); (try rw [show ((259 : Int)).toNat = 259 from rfl] at hz35_); have HP35 := Kd.R_putg HO266.out (259 : Int) 1) | ((with_reducible refine gate_store (t := 5) (p := 61) rfl ?_); refine store_event (t := 5) (p := 61) (v := ?vo_w36) (w1 := (w34.setCell ⟨go24, (259 : Int).toNat, none⟩ (.int .u8 1))) ?hg ?ho ?hn ?hr ?_; (case ho => rfl); (case hg => rfl); (case hn => rfl); (case hr => first | (go_simp; done) | (go_simp; rfl)); intro w36 hw; have hg : w34.grownBy w36 (some go24) := (by rw [hw]; exact HP35.2); have hp_ : Kd.R (Kd.int .u8) 5 w36 w.heap.size (fun _ => True) (.slice (some ⟨go24, 0, none⟩) y264.length co24) y269 := (by rw [hw, Ny269.out]; exact HP35.1); clear HP35; have n0_ := Aside0.mk (blk_grown (g := gb262) (o := .cells #[.string t251, .int .u8 t252, .int .i64 t253, .bool t254, .bool t255, .bool t256, .int .i64 t257, .int .i64 t258, .int .u8 t259, .int .u16 t260] 26 (0, 0)) (by (with_reducible repeat (first | refine blk_drewN ?_ _ | refine blk_drew ?_ | refine blk_alloc ?_ _)); exact BK262.out) hg (Kd.R_ne HO266.out BK262.out (by decide))); have n1_ := Aside0.mk (hp_); have n2_ := Aside0.mk ((by rw [hw]; exact below_set (HB.out) GB24.out : Below w.heap.size w w36)); clear BK262; clear HO266; clear HB; have BK262 := n0_; have HO266 := n1_; have HB := n2_; clear n0_ n1_ n2_; clear hg hw hp_))
                          go_loopg [16] kj13 (fun kq v16 w' => ∃ (x15_3 : List Int) (x16_3 : Int), v16 = .int .i64 x16_3 ∧ Aside0 (whirligigref07_Make.l1 kq a0 a1 a2 a3 l4 x15_3 x16_3 = some (r1, r2)) ∧ Aside0 (kq ≤ kj13) ∧ Aside0 (Kd.R (Kd.int .u8) 5 w' w.heap.size (fun _ => True) (.slice (some ⟨go24, 0, none⟩) y264.length co24) x15_3) ∧ Aside0 (w'.heap[gb262]? = some (.cells #[.string t251, .int .u8 t252, .int .i64 t253, .bool t254, .bool t255, .bool t256, .int .i64 t257, .int .i64 t258, .int .u8 t259, .int .u16 t260] 26 (0, 0))) ∧ Aside0 (Below w.heap.size w w'))
                          case atStart => exact ⟨(y269), (0), (by first | rfl | (simp; done) | (simp [*]; done)), H', ⟨Nat.le_refl _⟩, ⟨by (with_reducible repeat (first | apply Kd.R_alloc | apply Kd.R_drewN | apply Kd.R_drew)); exact HO266.out⟩, ⟨by (with_reducible repeat (first | refine blk_drewN ?_ _ | refine blk_drew ?_ | refine blk_alloc ?_ _)); exact BK262.out⟩, ⟨by repeat (first | (with_reducible first | exact HB.out | apply below_alloc | apply pw_below_drewN | apply below_drew1 | refine below_set ?_ GE262.out) | exact HB.out)⟩⟩
                          case round =>
                            clear H'
                            try clear c1
                            try clear c2
                            try clear p2
                            try clear q2
                            try clear hx2
                            try clear qi2
                            try clear c4
                            try clear c6
                            try clear c6b0
                            try clear c6b1
                            try clear p6
                            try clear c7
                            try clear c7b0
                            try clear c8
                            try clear c8b0
                            try clear p9
                            try clear q9
                            try clear hx9
                            try clear c11
                            try clear c13
                            try clear c18
                            try clear c18b0
                            try clear c19
                            try clear c19b0
                            try clear c21
                            try clear c22
                            try clear c22b0
                            try clear c22b1
                            try clear c23
                            try clear c23b0
                            try clear c23b1
                            try clear p24
                            try clear q24
                            try clear hx24
                            try clear qi24
                            try clear hf24
                            try clear c25
                            try clear c25b0
                            try clear c25b1
                            try clear p26
                            try clear q26
                            try clear hx26
                            try clear qi26
                            try clear hf26
                            try clear c27
                            try clear c27b0
                            try clear c27b1
                            try clear p28
                            try clear q28
                            try clear hx28
                            try clear qi28
                            try clear hf28
                            try clear hcz17_0
                            try clear hcz17_1
                            try clear hcz17_2
                            try clear hcz17_3
                            try clear hcz17_4
                            try clear hcz17_5
                            try clear hcz17_6
                            try clear hcz17_7
                            try clear hcz17_8
                            try clear hcz17_9
                            try clear hfz17_0
                            try clear hfz17_1
                            try clear hfz17_2
                            try clear hfz17_3
                            try clear hfz17_4
                            try clear hfz17_5
                            try clear hfz17_6
                            try clear hfz17_7
                            try clear hfz17_8
                            try clear hfz17_9
                            try clear hx24_0
                            try clear hx26_0
                            try clear hx28_0
                            try clear p2
                            try clear p24
                            try clear p26
                            try clear p28
                            try clear p6
                            try clear p9
                            try clear q24
                            try clear q26
                            try clear q28
                            try clear q9
                            obtain ⟨x15_3, x16_3, rfl, HA, HK3, HO_15, BK262, HB⟩ := hrel
                            have hl15_3 := (Kd.R_reads' HO_15.out).1
                            rw [hl15_3] at HO_15
                            (try simp only [hl15_3])
                            (try simp only [hl15_3] at BK262)
                            cases gk with
                            | zero => exact absurd HA.out (by simp [whirligigref07_Make.l1])
                            | succ k3 =>
                              have H := HA.out
                              clear HA
                              simp only [whirligigref07_Make.l1] at H
                              by_cases c37 : x16_3 < (a0.size : Int)
                              · rw [if_pos c37] at H
                                have c37b0 : decide (x16_3 < (a0.size : Int)) = true := decide_eq_true c37
                                clear c37
                                by_cases c38 : 0 ≤ x16_3
                                · rw [if_pos c38] at H
                                  have c38b0 : decide (0 ≤ x16_3) = true := decide_eq_true c38
                                  clear c38
                                  obtain ⟨ji40, hji40⟩ : ∃ j_ : Int, (wrap64 (308 + x16_3)) = j_ := ⟨_, rfl⟩
                                  replace H : (if 0 ≤ (ji40) then (if (ji40) < (x15_3.length : Int) then (whirligigref07_Make.l1 k3 a0 a1 a2 a3 l4 (x15_3.set ((ji40) : Int).toNat (bt a0 x16_3)) (wrap64 (x16_3 + 1))) else (none)) else (none)) = some (r1, r2) := by first | (rw [hji40] at H; exact H) | (simp only [hji40] at H ⊢; exact H)
                                  have hji40w : (IntKind.i64.wrap (308 + x16_3)) = ji40 := (i64_w _).trans hji40
                                  by_cases c41 : 0 ≤ (ji40)
                                  · rw [if_pos c41] at H
                                    have c41b0 : decide (0 ≤ (ji40)) = true := decide_eq_true c41
                                    clear c41
                                    by_cases c42 : (ji40) < (x15_3.length : Int)
                                    · rw [if_pos c42] at H
                                      have c42b0 : decide ((ji40) < (x15_3.length : Int)) = true := decide_eq_true c42
                                      clear c42
                                      obtain ⟨y270, hy270⟩ : ∃ y_ : List Int, y_ = (x15_3.set ((ji40) : Int).toNat (bt a0 x16_3)) := ⟨_, rfl⟩
                                      replace H : (whirligigref07_Make.l1 k3 a0 a1 a2 a3 l4 y270 (wrap64 (x16_3 + 1))) = some (r1, r2) := by first | (rw [hy270]; with_reducible exact H) | (have H2_ := (Option.bind_some _ _).symm.trans H; rw [hy270]; with_reducible exact H2_) | (have H2_ := (Option.bind_some _ _).symm.trans H; with_reducible exact H2_) | with_reducible exact H | (rw [hy270]; exact H) | exact H
                                      have Ny270 := Aside0.mk hy270
                                      clear hy270
                                      have H' := Aside0.mk H
                                      clear H
                                      have p39 : 0 ≤ (x16_3 : Int) := of_decide_eq_true (by first | (with_reducible assumption) | assumption)
                                      have q39 : x16_3 < (a0.size : Int) := of_decide_eq_true (by first | (with_reducible assumption) | assumption)
                                      have hx39 := bt_at a0 x16_3
                                      replace p39 := eq_true p39
                                      replace q39 := eq_true q39
                                      have p43 : 0 ≤ ((ji40) : Int) := of_decide_eq_true (by first | (with_reducible assumption) | assumption)
                                      have q43 : ((ji40) : Int) < ((x15_3.length : Int) : Int) := of_decide_eq_true (by first | (with_reducible assumption) | assumption)
                                      obtain ⟨hx43_0, hf43_0⟩ := Kd.R_celln 0 HO_15.out ((ji40) : Int) p43 q43
                                      replace p43 := eq_true p43
                                      replace q43 := eq_true q43
                                      have HP44 := Kd.R_putg HO_15.out ((ji40) : Int) (bt a0 x16_3)
                                      go_wp2_with (first | ((with_reducible refine gate_store (t := 5) (p := 74) rfl ?_); refine store_event (t := 5) (p := 74) (v := ?vo_w45) (w1 := (wr.setCell ⟨go24, ((ji40) : Int).toNat, none⟩ (.int .u8 (bt a0 x16_3)))) ?hg ?ho ?hn ?hr ?_; (case ho => rfl); (case hg => rfl); (case hn => rfl); (case hr => first | (go_simp; done) | (go_simp; rfl)); intro w45 hw; have hg : wr.grownBy w45 (some go24) := (by rw [hw]; exact HP44.2); have hp_ : Kd.R (Kd.int .u8) 5 w45 w.heap.size (fun _ => True) (.slice (some ⟨go24, 0, none⟩) x15_3.length co24) y270 := (by rw [hw, Ny270.out]; exact HP44.1); clear HP44; have n0_ := Aside0.mk (hp_); have n1_ := Aside0.mk (blk_grown (g := gb262) (o := .cells #[.string t251, .int .u8 t252, .int .i64 t253, .bool t254, .bool t255, .bool t256, .int .i64 t257, .int .i64 t258, .int .u8 t259, .int .u16 t260] 26 (0, 0)) (by (with_reducible repeat (first | refine blk_drewN ?_ _ | refine blk_drew ?_ | refine blk_alloc ?_ _)); exact BK262.out) hg (Kd.R_ne HO_15.out BK262.out (by decide))); have n2_ := Aside0.mk ((by rw [hw]; exact below_set (HB.out) GB24.out : Below w.heap.size w w45)); clear HO_15; clear BK262; clear HB; have HO_15 := n0_; have BK262 := n1_; have HB := n2_; clear n0_ n1_ n2_; clear hg hw hp_))
                                      (try simp only [← hl15_3])
                                      go_roundg k3
                                      case measure => have := HK1.out; have := HJ13.out; have := HK3.out; omega
                                      case rel => exact ⟨(y270), (wrap64 (x16_3 + 1)), (by first | rfl | (simp; done) | (simp [*]; done)), H', ⟨by have := HK1.out; have := HJ13.out; have := HK3.out; omega⟩, ⟨by (try simp only [hl15_3]); (with_reducible repeat (first | apply Kd.R_alloc | apply Kd.R_drewN | apply Kd.R_drew)); exact HO_15.out⟩, ⟨by (try simp only [hl15_3]); (with_reducible repeat (first | refine blk_drewN ?_ _ | refine blk_drew ?_ | refine blk_alloc ?_ _)); exact BK262.out⟩, ⟨by repeat (first | (with_reducible first | exact HB.out | apply below_alloc | apply pw_below_drewN | apply below_drew1 | refine below_set ?_ GE262.out) | exact HB.out)⟩⟩
                                    · rw [if_neg c42] at H
                                      exact absurd H (by simp)
                                  · rw [if_neg c41] at H
                                    exact absurd H (by simp)
                                · rw [if_neg c38] at H
                                  exact absurd H (by simp)
                              · rw [if_neg c37] at H
                                have c37b0 : decide (x16_3 < (a0.size : Int)) = false := decide_eq_false c37
                                clear c37
                                by_cases c46 : 327 < (x15_3.length : Int)
                                · rw [if_pos c46] at H
                                  have c46b0 : decide (327 < (x15_3.length : Int)) = true := decide_eq_true c46
                                  have c46b1 : decide (327 < x15_3.length) = true := decide_eq_true (by omega)
                                  clear c46
                                  obtain ⟨y271, hy271⟩ : ∃ y_ : List Int, y_ = (x15_3.set (327 : Int).toNat a1) := ⟨_, rfl⟩
                                  replace H : (if 328 < (x15_3.length : Int) then (if 329 < (x15_3.length : Int) then ((some ((y271.set (328 : Int).toNat a2).set (329 : Int).toNat a3 : List Int)).bind fun y273 => ((whirligigref07_Sum.f k3 y273).bind fun bt274 => (if 333 < (x15_3.length : Int) then ((some (y273.set (333 : Int).toNat bt274.1 : List Int)).bind fun y276 => (if y276.length + l4.length < 140737488355328 then ((some (y276 ++ l4 : List Int)).bind fun y277 => ((whirligigref07_Whole.f k3 y277).bind fun t280 => (if 334 < (y277.length : Int) then (if 335 < (y277.length : Int) then (some (((y277.set (334 : Int).toNat ((IntKind.u16.wrap (Int.tdiv t280 256)) % 256)).set (335 : Int).toNat ((Int.tmod t280 256) % 256)), 0)) else (none)) else (none)))) else (none))) else (none)))) else (none)) else (none)) = some (r1, r2) := by first | (rw [hy271]; with_reducible exact H) | (have H2_ := (Option.bind_some _ _).symm.trans H; rw [hy271]; with_reducible exact H2_) | (have H2_ := (Option.bind_some _ _).symm.trans H; with_reducible exact H2_) | with_reducible exact H | (rw [hy271]; exact H) | exact H
                                  have Ny271 := Aside0.mk hy271
                                  clear hy271
                                  by_cases c48 : 328 < (x15_3.length : Int)
                                  · rw [if_pos c48] at H
                                    have c48b0 : decide (328 < (x15_3.length : Int)) = true := decide_eq_true c48
                                    have c48b1 : decide (328 < x15_3.length) = true := decide_eq_true (by omega)
                                    clear c48
                                    obtain ⟨y272, hy272⟩ : ∃ y_ : List Int, y_ = (y271.set (328 : Int).toNat a2) := ⟨_, rfl⟩
                                    replace H : (if 329 < (x15_3.length : Int) then ((some (y272.set (329 : Int).toNat a3 : List Int)).bind fun y273 => ((whirligigref07_Sum.f k3 y273).bind fun bt274 => (if 333 < (x15_3.length : Int) then ((some (y273.set (333 : Int).toNat bt274.1 : List Int)).bind fun y276 => (if y276.length + l4.length < 140737488355328 then ((some (y276 ++ l4 : List Int)).bind fun y277 => ((whirligigref07_Whole.f k3 y277).bind fun t280 => (if 334 < (y277.length : Int) then (if 335 < (y277.length : Int) then (some (((y277.set (334 : Int).toNat ((IntKind.u16.wrap (Int.tdiv t280 256)) % 256)).set (335 : Int).toNat ((Int.tmod t280 256) % 256)), 0)) else (none)) else (none)))) else (none))) else (none)))) else (none)) = some (r1, r2) := by first | (rw [hy272]; with_reducible exact H) | (have H2_ := (Option.bind_some _ _).symm.trans H; rw [hy272]; with_reducible exact H2_) | (have H2_ := (Option.bind_some _ _).symm.trans H; with_reducible exact H2_) | with_reducible exact H | (rw [hy272]; exact H) | exact H
                                    have Ny272 := Aside0.mk hy272
                                    clear hy272
                                    by_cases c50 : 329 < (x15_3.length : Int)
                                    · rw [if_pos c50] at H
                                      have c50b0 : decide (329 < (x15_3.length : Int)) = true := decide_eq_true c50
                                      have c50b1 : decide (329 < x15_3.length) = true := decide_eq_true (by omega)
                                      clear c50
                                      obtain ⟨y273, hy273⟩ : ∃ y_ : List Int, y_ = (y272.set (329 : Int).toNat a3) := ⟨_, rfl⟩
                                      replace H : ((whirligigref07_Sum.f k3 y273).bind fun bt274 => (if 333 < (x15_3.length : Int) then ((some (y273.set (333 : Int).toNat bt274.1 : List Int)).bind fun y276 => (if y276.length + l4.length < 140737488355328 then ((some (y276 ++ l4 : List Int)).bind fun y277 => ((whirligigref07_Whole.f k3 y277).bind fun t280 => (if 334 < (y277.length : Int) then (if 335 < (y277.length : Int) then (some (((y277.set (334 : Int).toNat ((IntKind.u16.wrap (Int.tdiv t280 256)) % 256)).set (335 : Int).toNat ((Int.tmod t280 256) % 256)), 0)) else (none)) else (none)))) else (none))) else (none))) = some (r1, r2) := by first | (rw [hy273]; with_reducible exact H) | (have H2_ := (Option.bind_some _ _).symm.trans H; rw [hy273]; with_reducible exact H2_) | (have H2_ := (Option.bind_some _ _).symm.trans H; with_reducible exact H2_) | with_reducible exact H | (rw [hy273]; exact H) | exact H
                                      have Ny273 := Aside0.mk hy273
                                      clear hy273
                                      replace H := Option.bind_eq_some_iff.mp H
                                      obtain ⟨⟨t274, t275⟩, A520, H⟩ := H
                                      replace H : (if 333 < (x15_3.length : Int) then ((some (y273.set (333 : Int).toNat t274 : List Int)).bind fun y276 => (if y276.length + l4.length < 140737488355328 then ((some (y276 ++ l4 : List Int)).bind fun y277 => ((whirligigref07_Whole.f k3 y277).bind fun t280 => (if 334 < (y277.length : Int) then (if 335 < (y277.length : Int) then (some (((y277.set (334 : Int).toNat ((IntKind.u16.wrap (Int.tdiv t280 256)) % 256)).set (335 : Int).toNat ((Int.tmod t280 256) % 256)), 0)) else (none)) else (none)))) else (none))) else (none)) = some (r1, r2) := H
                                      have A52 := Aside0.mk A520
                                      clear A520
                                      by_cases c53 : 333 < (x15_3.length : Int)
                                      · rw [if_pos c53] at H
                                        have c53b0 : decide (333 < (x15_3.length : Int)) = true := decide_eq_true c53
                                        have c53b1 : decide (333 < x15_3.length) = true := decide_eq_true (by omega)
                                        clear c53
                                        obtain ⟨y276, hy276⟩ : ∃ y_ : List Int, y_ = (y273.set (333 : Int).toNat t274) := ⟨_, rfl⟩
                                        replace H : (if y276.length + l4.length < 140737488355328 then ((some (y276 ++ l4 : List Int)).bind fun y277 => ((whirligigref07_Whole.f k3 y277).bind fun t280 => (if 334 < (y277.length : Int) then (if 335 < (y277.length : Int) then (some (((y277.set (334 : Int).toNat ((IntKind.u16.wrap (Int.tdiv t280 256)) % 256)).set (335 : Int).toNat ((Int.tmod t280 256) % 256)), 0)) else (none)) else (none)))) else (none)) = some (r1, r2) := by first | (rw [hy276]; with_reducible exact H) | (have H2_ := (Option.bind_some _ _).symm.trans H; rw [hy276]; with_reducible exact H2_) | (have H2_ := (Option.bind_some _ _).symm.trans H; with_reducible exact H2_) | with_reducible exact H | (rw [hy276]; exact H) | exact H
                                        have Ny276 := Aside0.mk hy276
                                        clear hy276
                                        by_cases c55 : y276.length + l4.length < 140737488355328
                                        · rw [if_pos c55] at H
                                          have LMc55 := Aside0.mk c55
                                          clear c55
                                          obtain ⟨y277, hy277⟩ : ∃ y_ : List Int, y_ = (y276 ++ l4) := ⟨_, rfl⟩
                                          replace H : ((whirligigref07_Whole.f k3 y277).bind fun t280 => (if 334 < (y277.length : Int) then (if 335 < (y277.length : Int) then (some (((y277.set (334 : Int).toNat ((IntKind.u16.wrap (Int.tdiv t280 256)) % 256)).set (335 : Int).toNat ((Int.tmod t280 256) % 256)), 0)) else (none)) else (none))) = some (r1, r2) := by first | (rw [hy277]; with_reducible exact H) | (have H2_ := (Option.bind_some _ _).symm.trans H; rw [hy277]; with_reducible exact H2_) | (have H2_ := (Option.bind_some _ _).symm.trans H; with_reducible exact H2_) | with_reducible exact H | (rw [hy277]; exact H) | exact H
                                          have Ny277 := Aside0.mk hy277
                                          clear hy277
                                          replace H := Option.bind_eq_some_iff.mp H
                                          obtain ⟨t280, A560, H⟩ := H
                                          replace H : (if 334 < (y277.length : Int) then (if 335 < (y277.length : Int) then (some (((y277.set (334 : Int).toNat ((IntKind.u16.wrap (Int.tdiv t280 256)) % 256)).set (335 : Int).toNat ((Int.tmod t280 256) % 256)), 0)) else (none)) else (none)) = some (r1, r2) := H
                                          have A56 := Aside0.mk A560
                                          clear A560
                                          by_cases c57 : 334 < (y277.length : Int)
                                          · rw [if_pos c57] at H
                                            have c57b0 : decide (334 < (y277.length : Int)) = true := decide_eq_true c57
                                            have c57b1 : decide (334 < y277.length) = true := decide_eq_true (by omega)
                                            clear c57
                                            obtain ⟨y281, hy281⟩ : ∃ y_ : List Int, y_ = (y277.set (334 : Int).toNat ((IntKind.u16.wrap (Int.tdiv t280 256)) % 256)) := ⟨_, rfl⟩
                                            replace H : (if 335 < (y277.length : Int) then (some ((y281.set (335 : Int).toNat ((Int.tmod t280 256) % 256)), 0)) else (none)) = some (r1, r2) := by first | (rw [hy281]; with_reducible exact H) | (have H2_ := (Option.bind_some _ _).symm.trans H; rw [hy281]; with_reducible exact H2_) | (have H2_ := (Option.bind_some _ _).symm.trans H; with_reducible exact H2_) | with_reducible exact H | (rw [hy281]; exact H) | exact H
                                            have Ny281 := Aside0.mk hy281
                                            clear hy281
                                            by_cases c59 : 335 < (y277.length : Int)
                                            · rw [if_pos c59] at H
                                              have c59b0 : decide (335 < (y277.length : Int)) = true := decide_eq_true c59
                                              have c59b1 : decide (335 < y277.length) = true := decide_eq_true (by omega)
                                              clear c59
                                              obtain ⟨y282, hy282⟩ : ∃ y_ : List Int, y_ = (y281.set (335 : Int).toNat ((Int.tmod t280 256) % 256)) := ⟨_, rfl⟩
                                              replace H : (some (y282, 0)) = some (r1, r2) := by first | (rw [hy282]; with_reducible exact H) | (have H2_ := (Option.bind_some _ _).symm.trans H; rw [hy282]; with_reducible exact H2_) | (have H2_ := (Option.bind_some _ _).symm.trans H; with_reducible exact H2_) | with_reducible exact H | (rw [hy282]; exact H) | exact H
                                              have Ny282 := Aside0.mk hy282
                                              clear hy282
                                              simp only [Option.some.injEq, Prod.mk.injEq] at H
                                              obtain ⟨rfl, rfl⟩ := H
                                              have p47 : 0 ≤ (327 : Int) := (by omega)
                                              have q47 : (327 : Int) < ((x15_3.length : Int) : Int) := of_decide_eq_true (by first | (with_reducible assumption) | assumption)
                                              have qi47 : (327 < x15_3.length) = True := eq_true (by omega)
                                              obtain ⟨hx47_0, hf47_0⟩ := Kd.R_celln 0 HO_15.out (327 : Int) p47 q47
                                              (try rw [show ((327 : Int)).toNat = 327 from rfl] at hx47_0)
                                              (try simp only [Nat.reduceMul, Nat.zero_mul, Nat.zero_add, Nat.reduceAdd] at hx47_0)
                                              (try rw [show ((327 : Int)).toNat = 327 from rfl] at hf47_0)
                                              (try simp only [Nat.reduceMul, Nat.zero_mul, Nat.zero_add, Nat.reduceAdd] at hf47_0)
                                              replace p47 := eq_true p47
                                              replace q47 := eq_true q47
                                              have HP61 := Kd.R_putg HO_15.out (327 : Int) a1
                                              go_wp2_with (first | ((with_reducible refine gate_store (t := 5) (p := 77) rfl ?_); refine store_event (t := 5) (p := 77) (v := ?vo_w62) (w1 := (wr.setCell ⟨go24, (327 : Int).toNat, none⟩ (.int .u8 a1))) ?hg ?ho ?hn ?hr ?_; (case ho => rfl); (case hg => rfl); (case hn => rfl); (case hr => first | (go_simp; done) | (go_simp; rfl)); intro w62 hw; have hg : wr.grownBy w62 (some go24) := (by rw [hw]; exact HP61.2); have hp_ : Kd.R (Kd.int .u8) 5 w62 w.heap.size (fun _ => True) (.slice (some ⟨go24, 0, none⟩) x15_3.length co24) y271 := (by rw [hw, Ny271.out]; exact HP61.1); clear HP61; have n0_ := Aside0.mk (hp_); have n1_ := Aside0.mk (blk_grown (g := gb262) (o := .cells #[.string t251, .int .u8 t252, .int .i64 t253, .bool t254, .bool t255, .bool t256, .int .i64 t257, .int .i64 t258, .int .u8 t259, .int .u16 t260] 26 (0, 0)) (by (with_reducible repeat (first | refine blk_drewN ?_ _ | refine blk_drew ?_ | refine blk_alloc ?_ _)); exact BK262.out) hg (Kd.R_ne HO_15.out BK262.out (by decide))); have n2_ := Aside0.mk ((by rw [hw]; exact below_set (HB.out) GB24.out : Below w.heap.size w w62)); clear HO_15; clear BK262; clear HB; have HO_15 := n0_; have BK262 := n1_; have HB := n2_; clear n0_ n1_ n2_; clear hg hw hp_; have p49 : 0 ≤ (328 : Int) := (by omega); have q49 : (328 : Int) < ((x15_3.length : Int) : Int) := of_decide_eq_true (by first | (with_reducible assumption) | assumption); have qi49 : (328 < x15_3.length) = True := eq_true (by omega); obtain ⟨hx49_0, hf49_0⟩ := Kd.R_celln 0 HO_15.out (328 : Int) p49 q49; (try rw [show ((328 : Int)).toNat = 328 from rfl] at hx49_0); (try simp only [Nat.reduceMul, Nat.zero_mul, Nat.zero_add, Nat.reduceAdd] at hx49_0); (try rw [show ((328 : Int)).toNat = 328 from rfl] at hf49_0); (try simp only [Nat.reduceMul, Nat.zero_mul, Nat.zero_add, Nat.reduceAdd] at hf49_0); replace p49 := eq_true p49; replace q49 := eq_true q49; obtain ⟨hy63_, hz63_⟩ := Kd.R_celln 0 HO_15.out (328 : Int) (by omega) (of_decide_eq_true (by first | (with_reducible assumption) | assumption)); (try simp only [Int.reduceToNat, Int.toNat_zero, Int.toNat_ofNat, Nat.reduceMul, Nat.zero_mul, Nat.zero_add] at hy63_ hz63_); (try rw [show ((328 : Int)).toNat = 328 from rfl] at hy63_); (try rw [show ((328 : Int)).toNat = 328 from rfl] at hz63_); have HP63 := Kd.R_putg HO_15.out (328 : Int) a2) | ((with_reducible refine gate_store (t := 5) (p := 80) rfl ?_); refine store_event (t := 5) (p := 80) (v := ?vo_w64) (w1 := (w62.setCell ⟨go24, (328 : Int).toNat, none⟩ (.int .u8 a2))) ?hg ?ho ?hn ?hr ?_; (case ho => rfl); (case hg => rfl); (case hn => rfl); (case hr => first | (go_simp; done) | (go_simp; rfl)); intro w64 hw; have hg : w62.grownBy w64 (some go24) := (by rw [hw]; exact HP63.2); have hp_ : Kd.R (Kd.int .u8) 5 w64 w.heap.size (fun _ => True) (.slice (some ⟨go24, 0, none⟩) x15_3.length co24) y272 := (by rw [hw, Ny272.out]; exact HP63.1); clear HP63; have n0_ := Aside0.mk (hp_); have n1_ := Aside0.mk (blk_grown (g := gb262) (o := .cells #[.string t251, .int .u8 t252, .int .i64 t253, .bool t254, .bool t255, .bool t256, .int .i64 t257, .int .i64 t258, .int .u8 t259, .int .u16 t260] 26 (0, 0)) (by (with_reducible repeat (first | refine blk_drewN ?_ _ | refine blk_drew ?_ | refine blk_alloc ?_ _)); exact BK262.out) hg (Kd.R_ne HO_15.out BK262.out (by decide))); have n2_ := Aside0.mk ((by rw [hw]; exact below_set (HB.out) GB24.out : Below w.heap.size w w64)); clear HO_15; clear BK262; clear HB; have HO_15 := n0_; have BK262 := n1_; have HB := n2_; clear n0_ n1_ n2_; clear hg hw hp_; have p51 : 0 ≤ (329 : Int) := (by omega); have q51 : (329 : Int) < ((x15_3.length : Int) : Int) := of_decide_eq_true (by first | (with_reducible assumption) | assumption); have qi51 : (329 < x15_3.length) = True := eq_true (by omega); obtain ⟨hx51_0, hf51_0⟩ := Kd.R_celln 0 HO_15.out (329 : Int) p51 q51; (try rw [show ((329 : Int)).toNat = 329 from rfl] at hx51_0); (try simp only [Nat.reduceMul, Nat.zero_mul, Nat.zero_add, Nat.reduceAdd] at hx51_0); (try rw [show ((329 : Int)).toNat = 329 from rfl] at hf51_0); (try simp only [Nat.reduceMul, Nat.zero_mul, Nat.zero_add, Nat.reduceAdd] at hf51_0); replace p51 := eq_true p51; replace q51 := eq_true q51; obtain ⟨hy65_, hz65_⟩ := Kd.R_celln 0 HO_15.out (329 : Int) (by omega) (of_decide_eq_true (by first | (with_reducible assumption) | assumption)); (try simp only [Int.reduceToNat, Int.toNat_zero, Int.toNat_ofNat, Nat.reduceMul, Nat.zero_mul, Nat.zero_add] at hy65_ hz65_); (try rw [show ((329 : Int)).toNat = 329 from rfl] at hy65_); (try rw [show ((329 : Int)).toNat = 329 from rfl] at hz65_); have HP65 := Kd.R_putg HO_15.out (329 : Int) a3) | ((with_reducible refine gate_store (t := 5) (p := 83) rfl ?_); refine store_event (t := 5) (p := 83) (v := ?vo_w66) (w1 := (w64.setCell ⟨go24, (329 : Int).toNat, none⟩ (.int .u8 a3))) ?hg ?ho ?hn ?hr ?_; (case ho => rfl); (case hg => rfl); (case hn => rfl); (case hr => first | (go_simp; done) | (go_simp; rfl)); intro w66 hw; have hg : w64.grownBy w66 (some go24) := (by rw [hw]; exact HP65.2); have hp_ : Kd.R (Kd.int .u8) 5 w66 w.heap.size (fun _ => True) (.slice (some ⟨go24, 0, none⟩) x15_3.length co24) y273 := (by rw [hw, Ny273.out]; exact HP65.1); clear HP65; have n0_ := Aside0.mk (hp_); have n1_ := Aside0.mk (blk_grown (g := gb262) (o := .cells #[.string t251, .int .u8 t252, .int .i64 t253, .bool t254, .bool t255, .bool t256, .int .i64 t257, .int .i64 t258, .int .u8 t259, .int .u16 t260] 26 (0, 0)) (by (with_reducible repeat (first | refine blk_drewN ?_ _ | refine blk_drew ?_ | refine blk_alloc ?_ _)); exact BK262.out) hg (Kd.R_ne HO_15.out BK262.out (by decide))); have n2_ := Aside0.mk ((by rw [hw]; exact below_set (HB.out) GB24.out : Below w.heap.size w w66)); clear HO_15; clear BK262; clear HB; have HO_15 := n0_; have BK262 := n1_; have HB := n2_; clear n0_ n1_ n2_; clear hg hw hp_) | ((with_reducible refine gate_callee (f := 15) rfl ?_); refine goesL_ (some 86) rfl rfl Try.func15 (by kernel_rfl) rfl #[.slice (some ⟨go24, 0, none⟩) y273.length co24] rfl (by (try simp only [List.map_toArray, List.map_cons, List.map_nil]); first | done | (rw [show y273.length = x15_3.length from (Kd.R_reads' HO_15.out).1.symm] <;> rfl) | rfl | (simp only [List.length_drop, List.length_take]; rfl)) ?_; (with_reducible refine (whirligigref07_Sum.calls k3 _ _ y273 t274 t275 _ ?side1 ?side2 A52.out).mono ?_); (case side1 => repeat (first | exact (Kd.R_reads' HO_15.out).2.2 | (with_reducible refine Kd.C_alloc ?_ _) | (with_reducible refine Kd.C_drewN ?_ _) | (with_reducible refine Kd.C_drew ?_))); (case side2 => rw [show y273.length = x15_3.length from (Kd.R_reads' HO_15.out).1.symm]; exact (Kd.R_reads' HO_15.out).2.1); rintro e w' ⟨rfl, ⟨nd, rfl⟩⟩; refine ⟨_, rfl, ?_⟩; (try (rw [drewN_self w66]; generalize hq_ : World.drewN w66 _ = w66; have n0_ : Aside0 (Kd.R (Kd.int .u8) 5 w66 w.heap.size (fun _ => True) (.slice (some ⟨go24, 0, none⟩) x15_3.length co24) y273) := ⟨by rw [← hq_]; exact (by (with_reducible repeat (first | apply Kd.R_alloc | apply Kd.R_drewN | apply Kd.R_drew)); exact HO_15.out)⟩; have n1_ : Aside0 (w66.heap[gb262]? = some (.cells #[.string t251, .int .u8 t252, .int .i64 t253, .bool t254, .bool t255, .bool t256, .int .i64 t257, .int .i64 t258, .int .u8 t259, .int .u16 t260] 26 (0, 0))) := ⟨by rw [← hq_]; exact (by (with_reducible repeat (first | refine blk_drewN ?_ _ | refine blk_drew ?_ | refine blk_alloc ?_ _)); exact BK262.out)⟩; have n2_ : Aside0 (Below w.heap.size w w66) := ⟨by rw [← hq_]; exact (by repeat (first | (with_reducible first | exact HB.out | apply below_alloc | apply pw_below_drewN | apply below_drew1 | refine below_set ?_ GE262.out) | exact HB.out))⟩; clear HO_15 BK262 HB hq_; have HO_15 := n0_; have BK262 := n1_; have HB := n2_; clear n0_ n1_ n2_)); have p54 : 0 ≤ (333 : Int) := (by omega); have q54 : (333 : Int) < ((x15_3.length : Int) : Int) := of_decide_eq_true (by first | (with_reducible assumption) | assumption); have qi54 : (333 < x15_3.length) = True := eq_true (by omega); obtain ⟨hx54_0, hf54_0⟩ := Kd.R_celln 0 HO_15.out (333 : Int) p54 q54; (try rw [show ((333 : Int)).toNat = 333 from rfl] at hx54_0); (try simp only [Nat.reduceMul, Nat.zero_mul, Nat.zero_add, Nat.reduceAdd] at hx54_0); (try rw [show ((333 : Int)).toNat = 333 from rfl] at hf54_0); (try simp only [Nat.reduceMul, Nat.zero_mul, Nat.zero_add, Nat.reduceAdd] at hf54_0); replace p54 := eq_true p54; replace q54 := eq_true q54; obtain ⟨hy67_, hz67_⟩ := Kd.R_celln 0 HO_15.out (333 : Int) (by omega) (of_decide_eq_true (by first | (with_reducible assumption) | assumption)); (try simp only [Int.reduceToNat, Int.toNat_zero, Int.toNat_ofNat, Nat.reduceMul, Nat.zero_mul, Nat.zero_add] at hy67_ hz67_); (try rw [show ((333 : Int)).toNat = 333 from rfl] at hy67_); (try rw [show ((333 : Int)).toNat = 333 from rfl] at hz67_); have HP67 := Kd.R_putg HO_15.out (333 : Int) t274) | ((with_reducible refine gate_store (t := 5) (p := 91) rfl ?_); refine store_event (t := 5) (p := 91) (v := ?vo_w68) (w1 := (w66.setCell ⟨go24, (333 : Int).toNat, none⟩ (.int .u8 t274))) ?hg ?ho ?hn ?hr ?_; (case ho => rfl); (case hg => rfl); (case hn => rfl); (case hr => first | (go_simp; done) | (go_simp; rfl)); intro w68 hw; have hg : w66.grownBy w68 (some go24) := (by rw [hw]; exact HP67.2); have hp_ : Kd.R (Kd.int .u8) 5 w68 w.heap.size (fun _ => True) (.slice (some ⟨go24, 0, none⟩) x15_3.length co24) y276 := (by rw [hw, Ny276.out]; exact HP67.1); clear HP67; have n0_ := Aside0.mk (hp_); have n1_ := Aside0.mk (blk_grown (g := gb262) (o := .cells #[.string t251, .int .u8 t252, .int .i64 t253, .bool t254, .bool t255, .bool t256, .int .i64 t257, .int .i64 t258, .int .u8 t259, .int .u16 t260] 26 (0, 0)) (by (with_reducible repeat (first | refine blk_drewN ?_ _ | refine blk_drew ?_ | refine blk_alloc ?_ _)); exact BK262.out) hg (Kd.R_ne HO_15.out BK262.out (by decide))); have n2_ := Aside0.mk ((by rw [hw]; exact below_set (HB.out) GB24.out : Below w.heap.size w w68)); clear HO_15; clear BK262; clear HB; have HO_15 := n0_; have BK262 := n1_; have HB := n2_; clear n0_ n1_ n2_; clear hg hw hp_) | ((with_reducible refine gate_builtin (b := .append) (xs := #[.tmp 92, .tmp 93]) rfl ?_); (try (refine gate_guard (by rfl) ?_; dsimp only)); at_builtin; refine Kd.R_append_rows (Kd.int .u8) (w0 := w) w.heap.size rfl (.tmp 92) (.tmp 93) 22 5 (.int .u8 0) 1 rfl Try.underlying22 info5 rfl (by decide) (by omega) (.slice (some ⟨go24, 0, none⟩) x15_3.length co24) y276 l4 _ _ _ (fun _ => True) (fun _ => False) rfl rfl ?aO ?aR (fun _ _ h => h) (fun _ h => h.elim) ?aF ?aB ?aS ?aL ?_; (case aR => repeat (first | exact (Kd.C_below HR4.out HB.out) | (with_reducible refine Kd.C_alloc ?_ _) | (with_reducible refine Kd.C_drewN ?_ _) | (with_reducible refine Kd.C_drew ?_))); (case aB => exact (by repeat (first | (with_reducible first | exact HB.out | apply below_alloc | apply pw_below_drewN | apply below_drew1 | refine below_set ?_ GE262.out) | exact HB.out))); (case aF => exact (fun _ _ => trivial)); (case aO => exact (by (with_reducible repeat (first | apply Kd.R_alloc | apply Kd.R_drewN | apply Kd.R_drew)); exact HO_15.out)); (case aS => exact (below_size (by repeat (first | (with_reducible first | exact HB.out | apply below_alloc | apply pw_below_drewN | apply below_drew1 | refine below_set ?_ GE262.out) | exact HB.out)))); (case aL => have := LMc55.out; omega); intro v278 w69 ho hb hg hat; rw [← Ny277.out] at ho; have n0_ := Aside0.mk (blk_grown (g := gb262) (o := .cells #[.string t251, .int .u8 t252, .int .i64 t253, .bool t254, .bool t255, .bool t256, .int .i64 t257, .int .i64 t258, .int .u8 t259, .int .u16 t260] 26 (0, 0)) (by (with_reducible repeat (first | refine blk_drewN ?_ _ | refine blk_drew ?_ | refine blk_alloc ?_ _)); exact BK262.out) hg (Kd.R_ne HO_15.out BK262.out (by decide))); have n1_ := Aside0.mk (hb); have n2_ := Aside0.mk (ho); clear BK262; clear HB; clear HO_15; have BK262 := n0_; have HB := n1_; have HO279 := n2_; clear n0_ n1_ n2_; clear ho hb hg hat; obtain ⟨Ao70, co70, eo70⟩ := Kd.R_slice HO279.out; subst eo70) | ((with_reducible refine gate_callee (f := 17) rfl ?_); refine goesL_ (some 96) rfl rfl Try.func17 (by kernel_rfl) rfl #[.slice Ao70 y277.length co70] rfl (by (try simp only [List.map_toArray, List.map_cons, List.map_nil]); first | done | rfl | (simp only [List.length_drop, List.length_take]; rfl)) ?_; (with_reducible refine (whirligigref07_Whole.calls k3 _ _ y277 t280 _ ?side1 ?side2 A56.out).mono ?_); (case side1 => repeat (first | exact (Kd.R_reads' HO279.out).2.2 | (with_reducible refine Kd.C_alloc ?_ _) | (with_reducible refine Kd.C_drewN ?_ _) | (with_reducible refine Kd.C_drew ?_))); (case side2 => exact (Kd.R_reads' HO279.out).2.1); rintro e w' ⟨rfl, ⟨nd, rfl⟩⟩; refine ⟨_, rfl, ?_⟩; (try (rw [drewN_self w69]; generalize hq_ : World.drewN w69 _ = w69; have n0_ : Aside0 (Kd.R (Kd.int .u8) 5 w69 w.heap.size (fun _ => True) (.slice Ao70 y277.length co70) y277) := ⟨by rw [← hq_]; exact (by (with_reducible repeat (first | apply Kd.R_alloc | apply Kd.R_drewN | apply Kd.R_drew)); exact HO279.out)⟩; have n1_ : Aside0 (w69.heap[gb262]? = some (.cells #[.string t251, .int .u8 t252, .int .i64 t253, .bool t254, .bool t255, .bool t256, .int .i64 t257, .int .i64 t258, .int .u8 t259, .int .u16 t260] 26 (0, 0))) := ⟨by rw [← hq_]; exact (by (with_reducible repeat (first | refine blk_drewN ?_ _ | refine blk_drew ?_ | refine blk_alloc ?_ _)); exact BK262.out)⟩; have n2_ : Aside0 (Below w.heap.size w w69) := ⟨by rw [← hq_]; exact (by repeat (first | (with_reducible first | exact HB.out | apply below_alloc | apply pw_below_drewN | apply below_drew1 | refine below_set ?_ GE262.out) | exact HB.out))⟩; clear HO279 BK262 HB hq_; have HO279 := n0_; have BK262 := n1_; have HB := n2_; clear n0_ n1_ n2_)); have p58 : 0 ≤ (334 : Int) := (by omega); have q58 : (334 : Int) < ((y277.length : Int) : Int) := of_decide_eq_true (by first | (with_reducible assumption) | assumption); have qi58 : (334 < y277.length) = True := eq_true (by omega); obtain ⟨go58, co58, eo58, gb58, gl58, cl58, HG58⟩ := Kd.R_form HO279.out (by omega); (first | cases eo58 | (injection eo58 with ea_ en_ ec_; (first | subst ea_ | (injection ea_ with ea_; subst ea_)); subst ec_; clear en_)); have GB58 := Aside0.mk gb58; have GG58 := Aside0.mk HG58; clear gb58 gl58 HG58; obtain ⟨hx58_0, hf58_0⟩ := Kd.R_celln 0 HO279.out (334 : Int) p58 q58; (try rw [show ((334 : Int)).toNat = 334 from rfl] at hx58_0); (try simp only [Nat.reduceMul, Nat.zero_mul, Nat.zero_add, Nat.reduceAdd] at hx58_0); (try rw [show ((334 : Int)).toNat = 334 from rfl] at hf58_0); (try simp only [Nat.reduceMul, Nat.zero_mul, Nat.zero_add, Nat.reduceAdd] at hf58_0); replace p58 := eq_true p58; replace q58 := eq_true q58; obtain ⟨hy71_, hz71_⟩ := Kd.R_celln 0 HO279.out (334 : Int) (by omega) (of_decide_eq_true (by first | (with_reducible assumption) | assumption)); (try simp only [Int.reduceToNat, Int.toNat_zero, Int.toNat_ofNat, Nat.reduceMul, Nat.zero_mul, Nat.zero_add] at hy71_ hz71_); (try rw [show ((334 : Int)).toNat = 334 from rfl] at hy71_); (try rw [show ((334 : Int)).toNat = 334 from rfl] at hz71_); have HP71 := Kd.R_putg HO279.out (334 : Int) ((IntKind.u16.wrap (Int.tdiv t280 256)) % 256)) | ((with_reducible refine gate_store (t := 5) (p := 101) rfl ?_); refine store_event (t := 5) (p := 101) (v := ?vo_w72) (w1 := (w69.setCell ⟨go58, (334 : Int).toNat, none⟩ (.int .u8 ((IntKind.u16.wrap (Int.tdiv t280 256)) % 256)))) ?hg ?ho ?hn ?hr ?_; (case ho => rfl); (case hg => rfl); (case hn => rfl); (case hr => first | (go_simp; done) | (go_simp; rfl)); intro w72 hw; have hg : w69.grownBy w72 (some go58) := (by rw [hw]; exact HP71.2); have hp_ : Kd.R (Kd.int .u8) 5 w72 w.heap.size (fun _ => True) (.slice (some ⟨go58, 0, none⟩) y277.length co70) y281 := (by rw [hw, Ny281.out]; exact HP71.1); clear HP71; have n0_ := Aside0.mk (blk_grown (g := gb262) (o := .cells #[.string t251, .int .u8 t252, .int .i64 t253, .bool t254, .bool t255, .bool t256, .int .i64 t257, .int .i64 t258, .int .u8 t259, .int .u16 t260] 26 (0, 0)) (by (with_reducible repeat (first | refine blk_drewN ?_ _ | refine blk_drew ?_ | refine blk_alloc ?_ _)); exact BK262.out) hg (Kd.R_ne HO279.out BK262.out (by decide))); have n1_ := Aside0.mk (hp_); have n2_ := Aside0.mk ((by rw [hw]; exact below_set (HB.out) GB58.out : Below w.heap.size w w72)); clear BK262; clear HO279; clear HB; have BK262 := n0_; have HO279 := n1_; have HB := n2_; clear n0_ n1_ n2_; clear hg hw hp_; have p60 : 0 ≤ (335 : Int) := (by omega); have q60 : (335 : Int) < ((y277.length : Int) : Int) := of_decide_eq_true (by first | (with_reducible assumption) | assumption); have qi60 : (335 < y277.length) = True := eq_true (by omega); obtain ⟨hx60_0, hf60_0⟩ := Kd.R_celln 0 HO279.out (335 : Int) p60 q60; (try rw [show ((335 : Int)).toNat = 335 from rfl] at hx60_0); (try simp only [Nat.reduceMul, Nat.zero_mul, Nat.zero_add, Nat.reduceAdd] at hx60_0); (try rw [show ((335 : Int)).toNat = 335 from rfl] at hf60_0); (try simp only [Nat.reduceMul, Nat.zero_mul, Nat.zero_add, Nat.reduceAdd] at hf60_0); replace p60 := eq_true p60; replace q60 := eq_true q60; obtain ⟨hy73_, hz73_⟩ := Kd.R_celln 0 HO279.out (335 : Int) (by omega) (of_decide_eq_true (by first | (with_reducible assumption) | assumption)); (try simp only [Int.reduceToNat, Int.toNat_zero, Int.toNat_ofNat, Nat.reduceMul, Nat.zero_mul, Nat.zero_add] at hy73_ hz73_); (try rw [show ((335 : Int)).toNat = 335 from rfl] at hy73_); (try rw [show ((335 : Int)).toNat = 335 from rfl] at hz73_); have HP73 := Kd.R_putg HO279.out (335 : Int) ((Int.tmod t280 256) % 256)) | ((with_reducible refine gate_store (t := 5) (p := 106) rfl ?_); refine store_event (t := 5) (p := 106) (v := ?vo_w74) (w1 := (w72.setCell ⟨go58, (335 : Int).toNat, none⟩ (.int .u8 ((Int.tmod t280 256) % 256)))) ?hg ?ho ?hn ?hr ?_; (case ho => rfl); (case hg => rfl); (case hn => rfl); (case hr => first | (go_simp; done) | (go_simp; rfl)); intro w74 hw; have hg : w72.grownBy w74 (some go58) := (by rw [hw]; exact HP73.2); have hp_ : Kd.R (Kd.int .u8) 5 w74 w.heap.size (fun _ => True) (.slice (some ⟨go58, 0, none⟩) y277.length co70) y282 := (by rw [hw, Ny282.out]; exact HP73.1); clear HP73; have n0_ := Aside0.mk (blk_grown (g := gb262) (o := .cells #[.string t251, .int .u8 t252, .int .i64 t253, .bool t254, .bool t255, .bool t256, .int .i64 t257, .int .i64 t258, .int .u8 t259, .int .u16 t260] 26 (0, 0)) (by (with_reducible repeat (first | refine blk_drewN ?_ _ | refine blk_drew ?_ | refine blk_alloc ?_ _)); exact BK262.out) hg (Kd.R_ne HO279.out BK262.out (by decide))); have n1_ := Aside0.mk (hp_); have n2_ := Aside0.mk ((by rw [hw]; exact below_set (HB.out) GB58.out : Below w.heap.size w w74)); clear BK262; clear HO279; clear HB; have BK262 := n0_; have HO279 := n1_; have HB := n2_; clear n0_ n1_ n2_; clear hg hw hp_))
                                              go_ret2
                                              exact ⟨_, by first | rfl | (simp [errW_none, errW_some] <;> rfl) | (simp [*, errW_none, errW_some] <;> rfl), by (with_reducible repeat (first | apply Kd.R_alloc | apply Kd.R_drewN | apply Kd.R_drew)); exact HO279.out, by repeat (first | (with_reducible first | exact HB.out | apply below_alloc | apply pw_below_drewN | apply below_drew1 | refine below_set ?_ GE262.out) | exact HB.out)⟩
                                            · rw [if_neg c59] at H
                                              exact absurd H (by simp)
                                          · rw [if_neg c57] at H
                                            exact absurd H (by simp)
                                        · rw [if_neg c55] at H
                                          exact absurd H (by simp)
                                      · rw [if_neg c53] at H
                                        exact absurd H (by simp)
                                    · rw [if_neg c50] at H
                                      exact absurd H (by simp)
                                  · rw [if_neg c48] at H
                                    exact absurd H (by simp)
                                · rw [if_neg c46] at H
                                  exact absurd H (by simp)
                        · rw [if_neg c27] at H
                          exact absurd H (by simp)
                      · rw [if_neg c25] at H
                        exact absurd H (by simp)
                    · rw [if_neg c23] at H
                      exact absurd H (by simp)
                  · rw [if_neg c22] at H
                    exact absurd H (by simp)
          · replace c13 := Bool.eq_false_iff.mpr c13
            subst c13
            have H1 : (some (([] : List Int), 4)) = some (r1, r2) := by rw [if_neg (show ¬ (false = true) by decide)] at H; exact H
            clear H
            have H := H1
            clear H1
            simp only [Option.some.injEq, Prod.mk.injEq] at H
            obtain ⟨rfl, rfl⟩ := H
            go_wp2_with (first | ((with_reducible refine gate_callee (f := 25) rfl ?_); refine goesL_ (some 36) rfl rfl Try.func25 (by kernel_rfl) rfl #[.int .u8 a1] rfl (by (try simp only [List.map_toArray, List.map_cons, List.map_nil]); first | done | rfl | (simp only [List.length_drop, List.length_take]; rfl)) ?_; (with_reducible refine (whirligigref07_Kinds.calls k1 a1 t251 t252 t253 t254 t255 t256 t257 t258 t259 t260 false _ A12.out).mono ?_); rintro e w75 ⟨rfl, hb⟩; refine ⟨_, rfl, ?_⟩; have n0_ := Aside0.mk (below_step (by repeat (first | (with_reducible first | exact HB.out | apply below_alloc | apply pw_below_drewN | apply below_drew1) | exact HB.out)) hb); clear HB; have HB := n0_; clear n0_; (try clear hb); (try clear hb2); (try clear hk); (try clear hi)) | ((with_reducible refine gate_dst (N := 13) rfl ?_); (try (refine gate_guard (by rfl) ?_; dsimp only)); refine box_event ?hg (N := 13) ?hd (cs := #[.string (⟨#[]⟩ : ByteArray), .int .u8 0, .int .i64 0, .bool false, .bool false, .bool false, .int .i64 0, .int .i64 0, .int .u8 0, .int .u16 0]) (t := 26) ?hr ?_; (case hd => rfl); (case hg => rfl); (case hr => first | (go_simp; done) | (go_simp; rfl)); intro gb262 hg w76 hbox hb; have n0_ := Aside0.mk (below_step (by repeat (first | (with_reducible first | exact HB.out | apply below_alloc | apply pw_below_drewN | apply below_drew1) | exact HB.out)) hb); have n1_ := Aside0.mk (hbox); have n2_ := Aside0.mk ((by rw [hg]; exact (below_size (by repeat (first | (with_reducible first | exact HB.out | apply below_alloc | apply pw_below_drewN | apply below_drew1) | exact HB.out))) : w.heap.size ≤ gb262)); have n3_ := Aside0.mk ((by rw [hg]; exact (below_size (by repeat (first | (with_reducible first | exact HB.out | apply below_alloc | apply pw_below_drewN | apply below_drew1) | exact HB.out))) : w.heap.size ≤ gb262)); clear HB; have HB := n0_; have BK262 := n1_; have GW262 := n2_; have GE262 := n3_; clear n0_ n1_ n2_ n3_; clear hb hbox hg; have hcz77_0 : w76.cell? ⟨gb262, 0, none⟩ = some (.string (⟨#[]⟩ : ByteArray)) := (blk_cell BK262.out 0).trans rfl; have hcz77_1 : w76.cell? ⟨gb262, 1, none⟩ = some (.int .u8 0) := (blk_cell BK262.out 1).trans rfl; have hcz77_2 : w76.cell? ⟨gb262, 2, none⟩ = some (.int .i64 0) := (blk_cell BK262.out 2).trans rfl; have hcz77_3 : w76.cell? ⟨gb262, 3, none⟩ = some (.bool false) := (blk_cell BK262.out 3).trans rfl; have hcz77_4 : w76.cell? ⟨gb262, 4, none⟩ = some (.bool false) := (blk_cell BK262.out 4).trans rfl; have hcz77_5 : w76.cell? ⟨gb262, 5, none⟩ = some (.bool false) := (blk_cell BK262.out 5).trans rfl; have hcz77_6 : w76.cell? ⟨gb262, 6, none⟩ = some (.int .i64 0) := (blk_cell BK262.out 6).trans rfl; have hcz77_7 : w76.cell? ⟨gb262, 7, none⟩ = some (.int .i64 0) := (blk_cell BK262.out 7).trans rfl; have hcz77_8 : w76.cell? ⟨gb262, 8, none⟩ = some (.int .u8 0) := (blk_cell BK262.out 8).trans rfl; have hcz77_9 : w76.cell? ⟨gb262, 9, none⟩ = some (.int .u16 0) := (blk_cell BK262.out 9).trans rfl; have hfz77_0 := blk_frozen BK262.out 0; have hfz77_1 := blk_frozen BK262.out 1; have hfz77_2 := blk_frozen BK262.out 2; have hfz77_3 := blk_frozen BK262.out 3; have hfz77_4 := blk_frozen BK262.out 4; have hfz77_5 := blk_frozen BK262.out 5; have hfz77_6 := blk_frozen BK262.out 6; have hfz77_7 := blk_frozen BK262.out 7; have hfz77_8 := blk_frozen BK262.out 8; have hfz77_9 := blk_frozen BK262.out 9))
            go_ret2
            exact ⟨_, by first | rfl | (simp [errW_none, errW_some] <;> rfl) | (simp [*, errW_none, errW_some] <;> rfl), by first | exact Kd.R_nil _ _ _ _ _ | exact Kd.N_nil _ _ _ _ _ | exact Kd.V_nil _ _ _ _ _ | exact Kd.Q_nil _ _ _ _ _ | exact Kd.S_nil _ _ _ _ _, by repeat (first | (with_reducible first | exact HB.out | apply below_alloc | apply pw_below_drewN | apply below_drew1 | refine below_set ?_ GE262.out) | exact HB.out)⟩

end Go.Proofs.Ytmlpijlnchnabaa.G
