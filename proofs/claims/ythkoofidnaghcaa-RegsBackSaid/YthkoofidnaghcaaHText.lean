/- regs.Text by hand: registers written. -/
import Derived.Test.YthkoofidnaghcaaHGet
import Derived.Test.YthkoofidnaghcaaG6
import Derived.Test.YthkoofidnaghcaaG8
namespace Go.Proofs.Ythkoofidnaghcaa.Hand
open Go.RowKit
open Go.Proofs.Ythkoofidnaghcaa.G
open Go.Proofs.YthkoofidnaghcaaW.PrintWords Go.Proofs.YthkoofidnaghcaaW.PrintLast Go.Proofs.YthkoofidnaghcaaW.PrintMore
set_option linter.unusedVariables false
def textAcc (t0 t1 t2 t3 t4 t5 : ByteArray) : Nat → ByteArray
  | 0 => { data := #[65, 70, 61] } ++ t0
  | 1 => ({ data := #[65, 70, 61] } ++ t0) ++ ({ data := #[32, 66, 67, 61] } ++ t1)
  | 2 => (({ data := #[65, 70, 61] } ++ t0) ++ ({ data := #[32, 66, 67, 61] } ++ t1)) ++ ({ data := #[32, 68, 69, 61] } ++ t2)
  | 3 => ((({ data := #[65, 70, 61] } ++ t0) ++ ({ data := #[32, 66, 67, 61] } ++ t1)) ++ ({ data := #[32, 68, 69, 61] } ++ t2)) ++ ({ data := #[32, 72, 76, 61] } ++ t3)
  | 4 => (((({ data := #[65, 70, 61] } ++ t0) ++ ({ data := #[32, 66, 67, 61] } ++ t1)) ++ ({ data := #[32, 68, 69, 61] } ++ t2)) ++ ({ data := #[32, 72, 76, 61] } ++ t3)) ++ ({ data := #[32, 83, 80, 61] } ++ t4)
  | _ => ((((({ data := #[65, 70, 61] } ++ t0) ++ ({ data := #[32, 66, 67, 61] } ++ t1)) ++ ({ data := #[32, 68, 69, 61] } ++ t2)) ++ ({ data := #[32, 72, 76, 61] } ++ t3)) ++ ({ data := #[32, 83, 80, 61] } ++ t4)) ++ ({ data := #[32, 80, 67, 61] } ++ t5)
theorem textAcc_size (t0 t1 t2 t3 t4 t5 : ByteArray) (z0 : t0.size = 4) (z1 : t1.size = 4) (z2 : t2.size = 4) (z3 : t3.size = 4) (z4 : t4.size = 4) (z5 : t5.size = 4) :
    (textAcc t0 t1 t2 t3 t4 t5 0).size = 7 ∧ (textAcc t0 t1 t2 t3 t4 t5 1).size = 15 ∧ (textAcc t0 t1 t2 t3 t4 t5 2).size = 23 ∧ (textAcc t0 t1 t2 t3 t4 t5 3).size = 31 ∧ (textAcc t0 t1 t2 t3 t4 t5 4).size = 39 := by
  have e0 : ({ data := #[65, 70, 61] } : ByteArray).size = 3 := rfl
  have e1 : ({ data := #[32, 66, 67, 61] } : ByteArray).size = 4 := rfl
  have e2 : ({ data := #[32, 68, 69, 61] } : ByteArray).size = 4 := rfl
  have e3 : ({ data := #[32, 72, 76, 61] } : ByteArray).size = 4 := rfl
  have e4 : ({ data := #[32, 83, 80, 61] } : ByteArray).size = 4 := rfl
  refine ⟨?_, ?_, ?_, ?_, ?_⟩ <;> simp only [textAcc, ByteArray.size_append, z0, z1, z2, z3, z4, e0, e1, e2, e3, e4]
set_option maxRecDepth 100000 in
set_option maxHeartbeats 4000000 in
theorem text_calls (a f b c d e h l s p : Int) (j0 j1 j2 j3 : Int) (t0 t1 t2 t3 t4 t5 : ByteArray) (hj0 : word_Join.f a f = some j0) (hj1 : word_Join.f b c = some j1) (hj2 : word_Join.f d e = some j2) (hj3 : word_Join.f h l = some j3)
    (ht0 : word_Hex16.f j0 = some t0) (ht1 : word_Hex16.f j1 = some t1) (ht2 : word_Hex16.f j2 = some t2) (ht3 : word_Hex16.f j3 = some t3) (ht4 : word_Hex16.f s = some t4) (ht5 : word_Hex16.f p = some t5)
    (z0 : t0.size = 4) (z1 : t1.size = 4) (z2 : t2.size = 4) (z3 : t3.size = 4) (z4 : t4.size = 4) (z5 : t5.size = 4) (w : World) :
    Calls Try.prog 17 #[.agg #[.int .u8 a, .int .u8 f, .int .u8 b, .int .u8 c, .int .u8 d, .int .u8 e, .int .u8 h, .int .u8 l, .int .u16 s, .int .u16 p]] w fun e' w' => e' = .returned (.string (textAcc t0 t1 t2 t3 t4 t5 5)) ∧ Below w.heap.size w w' := by
  have J0 := Aside0.mk hj0
  have J1 := Aside0.mk hj1
  have J2 := Aside0.mk hj2
  have J3 := Aside0.mk hj3
  have T0 := Aside0.mk ht0
  have T1 := Aside0.mk ht1
  have T2 := Aside0.mk ht2
  have T3 := Aside0.mk ht3
  have T4 := Aside0.mk ht4
  have T5 := Aside0.mk ht5
  clear hj0 hj1 hj2 hj3 ht0 ht1 ht2 ht3 ht4 ht5
  go_enter Try.func17, Try.ntmps17
  go_wp2_with fail
  refine (word_Join.calls _ _ j0 _ J0.out).mono ?_
  rintro e' w0 ⟨rfl, ⟨nd0, rfl⟩⟩
  go_wp2_with fail
  refine (word_Hex16.calls _ t0 _ T0.out).mono ?_
  rintro e' w1 ⟨rfl, hb⟩
  have hk : w1.heap[w.heap.size]? = some (.cells #[.int .u8 a, .int .u8 f, .int .u8 b, .int .u8 c, .int .u8 d, .int .u8 e, .int .u8 h, .int .u8 l, .int .u16 s, .int .u16 p] 24 (0, 0)) := (hb.block w.heap.size (by simp)).trans (heap_alloc_new w _)
  have k2 : w1.cell? ⟨w.heap.size, 2, none⟩ = some (.int .u8 b) := (blk_cell hk 2).trans rfl
  have k3 : w1.cell? ⟨w.heap.size, 3, none⟩ = some (.int .u8 c) := (blk_cell hk 3).trans rfl
  have k4 : w1.cell? ⟨w.heap.size, 4, none⟩ = some (.int .u8 d) := (blk_cell hk 4).trans rfl
  have k5 : w1.cell? ⟨w.heap.size, 5, none⟩ = some (.int .u8 e) := (blk_cell hk 5).trans rfl
  have k6 : w1.cell? ⟨w.heap.size, 6, none⟩ = some (.int .u8 h) := (blk_cell hk 6).trans rfl
  have k7 : w1.cell? ⟨w.heap.size, 7, none⟩ = some (.int .u8 l) := (blk_cell hk 7).trans rfl
  have k8 : w1.cell? ⟨w.heap.size, 8, none⟩ = some (.int .u16 s) := (blk_cell hk 8).trans rfl
  have k9 : w1.cell? ⟨w.heap.size, 9, none⟩ = some (.int .u16 p) := (blk_cell hk 9).trans rfl
  have HB := Aside0.mk hb
  clear hb hk
  go_wp2_with fail
  go_region_held3 (fun w' => w'.cell? ⟨w.heap.size, 2, none⟩ = some (.int .u8 b) ∧ w'.cell? ⟨w.heap.size, 3, none⟩ = some (.int .u8 c) ∧ w'.cell? ⟨w.heap.size, 4, none⟩ = some (.int .u8 d) ∧ w'.cell? ⟨w.heap.size, 5, none⟩ = some (.int .u8 e) ∧ w'.cell? ⟨w.heap.size, 6, none⟩ = some (.int .u8 h) ∧ w'.cell? ⟨w.heap.size, 7, none⟩ = some (.int .u8 l) ∧ w'.cell? ⟨w.heap.size, 8, none⟩ = some (.int .u16 s) ∧ w'.cell? ⟨w.heap.size, 9, none⟩ = some (.int .u16 p)) (go_keep)
    (first | (go_at_call 37; ((with_reducible refine (word_Join.calls b c j1 _ J1.out).mono ?_)); rintro e' w2 ⟨rfl, ⟨nd2, rfl⟩⟩)
           | (go_at_call 37; ((with_reducible refine (word_Join.calls d e j2 _ J2.out).mono ?_)); rintro e' w2 ⟨rfl, ⟨nd2, rfl⟩⟩)
           | (go_at_call 37; ((with_reducible refine (word_Join.calls h l j3 _ J3.out).mono ?_)); rintro e' w2 ⟨rfl, ⟨nd2, rfl⟩⟩))
  rename_i hHeld
  clear hHeld
  go_wp2_with fail
  have HW : ∀ q, Aside0 (Below w.heap.size w (w1.drewN q)) := fun q => Aside0.mk (pw_below_drewN (Below.trans (pw_below_drewN (below_alloc (Below.refl _ _) _) _) (HB.out.mono (by simp))) _)
  obtain ⟨y0, y1, y2, y3, y4⟩ := textAcc_size t0 t1 t2 t3 t4 t5 z0 z1 z2 z3 z4 z5
  have Y0 := Aside0.mk y0
  have Y1 := Aside0.mk y1
  have Y2 := Aside0.mk y2
  have Y3 := Aside0.mk y3
  have Y4 := Aside0.mk y4
  clear y0 y1 y2 y3 y4
  have i0 : ∀ (j1 j2 j3 s p : Int) (w : World), (Instr.index 67 (.agg #[.string { data := #[32, 66, 67, 61] }, .int .u16 j1, .string { data := #[32, 68, 69, 61] }, .int .u16 j2, .string { data := #[32, 72, 76, 61] }, .int .u16 j3, .string { data := #[32, 83, 80, 61] }, .int .u16 s, .string { data := #[32, 80, 67, 61] }, .int .u16 p]) (.int .i64 0)).run Try.prog w = .ok (.agg #[.string { data := #[32, 66, 67, 61] }, .int .u16 j1]) w := fun _ _ _ _ _ _ => by kernel_rfl
  have i1 : ∀ (j1 j2 j3 s p : Int) (w : World), (Instr.index 67 (.agg #[.string { data := #[32, 66, 67, 61] }, .int .u16 j1, .string { data := #[32, 68, 69, 61] }, .int .u16 j2, .string { data := #[32, 72, 76, 61] }, .int .u16 j3, .string { data := #[32, 83, 80, 61] }, .int .u16 s, .string { data := #[32, 80, 67, 61] }, .int .u16 p]) (.int .i64 1)).run Try.prog w = .ok (.agg #[.string { data := #[32, 68, 69, 61] }, .int .u16 j2]) w := fun _ _ _ _ _ _ => by kernel_rfl
  have i2 : ∀ (j1 j2 j3 s p : Int) (w : World), (Instr.index 67 (.agg #[.string { data := #[32, 66, 67, 61] }, .int .u16 j1, .string { data := #[32, 68, 69, 61] }, .int .u16 j2, .string { data := #[32, 72, 76, 61] }, .int .u16 j3, .string { data := #[32, 83, 80, 61] }, .int .u16 s, .string { data := #[32, 80, 67, 61] }, .int .u16 p]) (.int .i64 2)).run Try.prog w = .ok (.agg #[.string { data := #[32, 72, 76, 61] }, .int .u16 j3]) w := fun _ _ _ _ _ _ => by kernel_rfl
  have i3 : ∀ (j1 j2 j3 s p : Int) (w : World), (Instr.index 67 (.agg #[.string { data := #[32, 66, 67, 61] }, .int .u16 j1, .string { data := #[32, 68, 69, 61] }, .int .u16 j2, .string { data := #[32, 72, 76, 61] }, .int .u16 j3, .string { data := #[32, 83, 80, 61] }, .int .u16 s, .string { data := #[32, 80, 67, 61] }, .int .u16 p]) (.int .i64 3)).run Try.prog w = .ok (.agg #[.string { data := #[32, 83, 80, 61] }, .int .u16 s]) w := fun _ _ _ _ _ _ => by kernel_rfl
  have i4 : ∀ (j1 j2 j3 s p : Int) (w : World), (Instr.index 67 (.agg #[.string { data := #[32, 66, 67, 61] }, .int .u16 j1, .string { data := #[32, 68, 69, 61] }, .int .u16 j2, .string { data := #[32, 72, 76, 61] }, .int .u16 j3, .string { data := #[32, 83, 80, 61] }, .int .u16 s, .string { data := #[32, 80, 67, 61] }, .int .u16 p]) (.int .i64 4)).run Try.prog w = .ok (.agg #[.string { data := #[32, 80, 67, 61] }, .int .u16 p]) w := fun _ _ _ _ _ _ => by kernel_rfl
  clear k2 k3 k4 k5 k6 k7 k8 k9
  go_loopw [3, 38] (fun v i w' => ∃ (k : Nat) (acc : ByteArray), v = .string acc ∧ i = .int .i64 k ∧ Aside0 (k ≤ 5 ∧ acc = textAcc t0 t1 t2 t3 t4 t5 k ∧ Below w.heap.size w w')) (fun _ i _ => 5 - (intOf i).toNat)
  case atStart => exact ⟨0, _, rfl, rfl, Aside0.mk ⟨by omega, rfl, (HW _).out⟩⟩
  case round =>
    obtain ⟨k, acc, rfl, rfl, HA⟩ := hrel
    obtain ⟨hk5, rfl, hbw⟩ := HA.out
    clear HA
    have HBW := Aside0.mk hbw
    clear hbw
    have hk6 : k = 0 ∨ k = 1 ∨ k = 2 ∨ k = 3 ∨ k = 4 ∨ k = 5 := by omega
    clear hk5
    rcases hk6 with rfl | rfl | rfl | rfl | rfl | rfl
    · have ysz := Y0.out
      generalize hacc : textAcc t0 t1 t2 t3 t4 t5 0 = acc at *
      have HACC := Aside0.mk hacc
      clear hacc
      go_wp2_with fail
      go_region_held3 (fun w' => w'.cell? ⟨wr.heap.size, 0, none⟩ = some (.string { data := #[32, 66, 67, 61] }) ∧ w'.cell? ⟨wr.heap.size, 1, none⟩ = some (.int .u16 j1)) (go_keep)
        (first | (go_at_call 39; ((with_reducible refine (word_Hex16.calls j1 t1 _ T1.out).mono ?_)); rintro e' w3 ⟨rfl, hb3⟩; obtain ⟨hc3, hf3⟩ := bcell hb3; have HB3 := Aside0.mk hb3; clear hb3))
      rename_i hHeld
      clear hHeld hc3 hf3
      go_wp2
      go_roundw
      case rel => exact ⟨1, _, rfl, rfl, Aside0.mk ⟨by omega, by rw [← HACC.out]; rfl, by
        repeat (first | exact HBW.out | apply below_alloc | apply below_drew1 | apply pw_below_drewN | (refine Below.trans ?_ (HB3.out.mono (by have := HBW.out.size; simp; omega))))⟩⟩
      case measure => simp [intOf]
    · have ysz := Y1.out
      generalize hacc : textAcc t0 t1 t2 t3 t4 t5 1 = acc at *
      have HACC := Aside0.mk hacc
      clear hacc
      go_wp2_with fail
      go_region_held3 (fun w' => w'.cell? ⟨wr.heap.size, 0, none⟩ = some (.string { data := #[32, 68, 69, 61] }) ∧ w'.cell? ⟨wr.heap.size, 1, none⟩ = some (.int .u16 j2)) (go_keep)
        (first | (go_at_call 39; ((with_reducible refine (word_Hex16.calls j2 t2 _ T2.out).mono ?_)); rintro e' w3 ⟨rfl, hb3⟩; obtain ⟨hc3, hf3⟩ := bcell hb3; have HB3 := Aside0.mk hb3; clear hb3))
      rename_i hHeld
      clear hHeld hc3 hf3
      go_wp2
      go_roundw
      case rel => exact ⟨2, _, rfl, rfl, Aside0.mk ⟨by omega, by rw [← HACC.out]; rfl, by
        repeat (first | exact HBW.out | apply below_alloc | apply below_drew1 | apply pw_below_drewN | (refine Below.trans ?_ (HB3.out.mono (by have := HBW.out.size; simp; omega))))⟩⟩
      case measure => simp [intOf]
    · have ysz := Y2.out
      generalize hacc : textAcc t0 t1 t2 t3 t4 t5 2 = acc at *
      have HACC := Aside0.mk hacc
      clear hacc
      go_wp2_with fail
      go_region_held3 (fun w' => w'.cell? ⟨wr.heap.size, 0, none⟩ = some (.string { data := #[32, 72, 76, 61] }) ∧ w'.cell? ⟨wr.heap.size, 1, none⟩ = some (.int .u16 j3)) (go_keep)
        (first | (go_at_call 39; ((with_reducible refine (word_Hex16.calls j3 t3 _ T3.out).mono ?_)); rintro e' w3 ⟨rfl, hb3⟩; obtain ⟨hc3, hf3⟩ := bcell hb3; have HB3 := Aside0.mk hb3; clear hb3))
      rename_i hHeld
      clear hHeld hc3 hf3
      go_wp2
      go_roundw
      case rel => exact ⟨3, _, rfl, rfl, Aside0.mk ⟨by omega, by rw [← HACC.out]; rfl, by
        repeat (first | exact HBW.out | apply below_alloc | apply below_drew1 | apply pw_below_drewN | (refine Below.trans ?_ (HB3.out.mono (by have := HBW.out.size; simp; omega))))⟩⟩
      case measure => simp [intOf]
    · have ysz := Y3.out
      generalize hacc : textAcc t0 t1 t2 t3 t4 t5 3 = acc at *
      have HACC := Aside0.mk hacc
      clear hacc
      go_wp2_with fail
      go_region_held3 (fun w' => w'.cell? ⟨wr.heap.size, 0, none⟩ = some (.string { data := #[32, 83, 80, 61] }) ∧ w'.cell? ⟨wr.heap.size, 1, none⟩ = some (.int .u16 s)) (go_keep)
        (first | (go_at_call 39; ((with_reducible refine (word_Hex16.calls s t4 _ T4.out).mono ?_)); rintro e' w3 ⟨rfl, hb3⟩; obtain ⟨hc3, hf3⟩ := bcell hb3; have HB3 := Aside0.mk hb3; clear hb3))
      rename_i hHeld
      clear hHeld hc3 hf3
      go_wp2
      go_roundw
      case rel => exact ⟨4, _, rfl, rfl, Aside0.mk ⟨by omega, by rw [← HACC.out]; rfl, by
        repeat (first | exact HBW.out | apply below_alloc | apply below_drew1 | apply pw_below_drewN | (refine Below.trans ?_ (HB3.out.mono (by have := HBW.out.size; simp; omega))))⟩⟩
      case measure => simp [intOf]
    · have ysz := Y4.out
      generalize hacc : textAcc t0 t1 t2 t3 t4 t5 4 = acc at *
      have HACC := Aside0.mk hacc
      clear hacc
      go_wp2_with fail
      go_region_held3 (fun w' => w'.cell? ⟨wr.heap.size, 0, none⟩ = some (.string { data := #[32, 80, 67, 61] }) ∧ w'.cell? ⟨wr.heap.size, 1, none⟩ = some (.int .u16 p)) (go_keep)
        (first | (go_at_call 39; ((with_reducible refine (word_Hex16.calls p t5 _ T5.out).mono ?_)); rintro e' w3 ⟨rfl, hb3⟩; obtain ⟨hc3, hf3⟩ := bcell hb3; have HB3 := Aside0.mk hb3; clear hb3))
      rename_i hHeld
      clear hHeld hc3 hf3
      go_wp2
      go_roundw
      case rel => exact ⟨5, _, rfl, rfl, Aside0.mk ⟨by omega, by rw [← HACC.out]; rfl, by
        repeat (first | exact HBW.out | apply below_alloc | apply below_drew1 | apply pw_below_drewN | (refine Below.trans ?_ (HB3.out.mono (by have := HBW.out.size; simp; omega))))⟩⟩
      case measure => simp [intOf]
    · go_wp2
      refine bodyPost_ret (v := .string (textAcc t0 t1 t2 t3 t4 t5 5)) (by simp [results, Try.results17, go_sem]) rfl ⟨rfl, ?_⟩
      exact (by repeat (first | exact HBW.out | apply below_drew1 | apply pw_below_drewN))
def regs_Text.f (a0_0 a0_1 a0_2 a0_3 a0_4 a0_5 a0_6 a0_7 a0_8 a0_9 : Int) : Option ByteArray :=
  (word_Join.f a0_0 a0_1).bind fun j0 => (word_Join.f a0_2 a0_3).bind fun j1 => (word_Join.f a0_4 a0_5).bind fun j2 => (word_Join.f a0_6 a0_7).bind fun j3 =>
  (word_Hex16.f j0).bind fun t0 => (word_Hex16.f j1).bind fun t1 => (word_Hex16.f j2).bind fun t2 => (word_Hex16.f j3).bind fun t3 => (word_Hex16.f a0_8).bind fun t4 => (word_Hex16.f a0_9).bind fun t5 =>
  if t0.size = 4 ∧ t1.size = 4 ∧ t2.size = 4 ∧ t3.size = 4 ∧ t4.size = 4 ∧ t5.size = 4 then some (textAcc t0 t1 t2 t3 t4 t5 5) else none
theorem regs_Text.calls (a0_0 a0_1 a0_2 a0_3 a0_4 a0_5 a0_6 a0_7 a0_8 a0_9 : Int) (r : ByteArray) (w : World) (h : regs_Text.f a0_0 a0_1 a0_2 a0_3 a0_4 a0_5 a0_6 a0_7 a0_8 a0_9 = some r) :
    Calls Try.prog 17 #[.agg #[.int .u8 a0_0, .int .u8 a0_1, .int .u8 a0_2, .int .u8 a0_3, .int .u8 a0_4, .int .u8 a0_5, .int .u8 a0_6, .int .u8 a0_7, .int .u16 a0_8, .int .u16 a0_9]] w fun e w' => e = .returned (.string r) ∧ Below w.heap.size w w' := by
  unfold regs_Text.f at h
  obtain ⟨j0, hj0, h⟩ := Option.bind_eq_some_iff.mp h
  obtain ⟨j1, hj1, h⟩ := Option.bind_eq_some_iff.mp h
  obtain ⟨j2, hj2, h⟩ := Option.bind_eq_some_iff.mp h
  obtain ⟨j3, hj3, h⟩ := Option.bind_eq_some_iff.mp h
  obtain ⟨t0, ht0, h⟩ := Option.bind_eq_some_iff.mp h
  obtain ⟨t1, ht1, h⟩ := Option.bind_eq_some_iff.mp h
  obtain ⟨t2, ht2, h⟩ := Option.bind_eq_some_iff.mp h
  obtain ⟨t3, ht3, h⟩ := Option.bind_eq_some_iff.mp h
  obtain ⟨t4, ht4, h⟩ := Option.bind_eq_some_iff.mp h
  obtain ⟨t5, ht5, h⟩ := Option.bind_eq_some_iff.mp h
  by_cases hz : t0.size = 4 ∧ t1.size = 4 ∧ t2.size = 4 ∧ t3.size = 4 ∧ t4.size = 4 ∧ t5.size = 4
  · rw [if_pos hz] at h
    obtain rfl := Option.some.inj h
    obtain ⟨z0, z1, z2, z3, z4, z5⟩ := hz
    exact text_calls _ _ _ _ _ _ _ _ _ _ _ _ _ _ _ _ _ _ _ _ hj0 hj1 hj2 hj3 ht0 ht1 ht2 ht3 ht4 ht5 z0 z1 z2 z3 z4 z5 w
  · rw [if_neg hz] at h
    exact absurd h (by simp)
end Go.Proofs.Ythkoofidnaghcaa.Hand
