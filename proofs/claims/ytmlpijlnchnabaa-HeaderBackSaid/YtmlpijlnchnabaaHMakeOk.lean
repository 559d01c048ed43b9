/- header.Make by hand: an image that is made. -/
import Derived.Test.YtmlpijlnchnabaaHCatch
import Derived.Test.YtmlpijlnchnabaaHSum0
import Derived.Test.YtmlpijlnchnabaaHWare
import Derived.Test.YtmlpijlnchnabaaHHeadOk
import Derived.Test.YtmlpijlnchnabaaHMakeDef
import Derived.Test.YtmlpijlnchnabaaG4
import Derived.Test.YtmlpijlnchnabaaG6
import Derived.Test.YtmlpijlnchnabaaG7
import Derived.Deep.MidRow
import Derived.Handy
namespace Go.Proofs.Ytmlpijlnchnabaa.Hand
open Go.RowKit
open Go.Proofs.Ytmlpijlnchnabaa.G
open Go.Proofs.YtmlpijlnchnabaaW.PrintWords Go.Proofs.YtmlpijlnchnabaaW.PrintLast Go.Proofs.YtmlpijlnchnabaaW.PrintMore
set_option linter.unusedVariables false
set_option linter.unusedSimpArgs false
theorem most_le (rom : Int) (h0 : 0 ≤ rom) (h8 : rom ≤ 8) : wrap64 (shl .i64 32768 rom - 336) ≤ 8388272 := by
  have h : rom = 0 ∨ rom = 1 ∨ rom = 2 ∨ rom = 3 ∨ rom = 4 ∨ rom = 5 ∨ rom = 6 ∨ rom = 7 ∨ rom = 8 := by omega
  rcases h with rfl | rfl | rfl | rfl | rfl | rfl | rfl | rfl | rfl <;> decide +kernel
set_option maxRecDepth 100000 in
set_option maxHeartbeats 4000000 in
theorem hmake_ok (s : ByteArray) (kd rom ram : Int) (A : Option Addr) (c : Nat) (l : List Int) (w : World) (hr : Kd.C (Kd.int .u8) w A l.length l) (hc : l.length ≤ c) (hs : (s.size : Int) ≤ 16) (hpr : ∀ i : Nat, i < s.size → prb (bt s (i : Int)) = true) (hk : 0 ≤ kd ∧ kd ≤ 255) (hok : (wareT kd).2.2.2.2 = true) (h80 : 0 ≤ rom) (h8 : decide (rom ≤ 8) = true) (h5 : decide (ram ≤ 5) = true) (hm : decide ((l.length : Int) ≤ wrap64 (shl .i64 32768 rom - 336)) = true) (kW : Nat) (wv : Int) (hW : header_Whole.f kW (splice (((((splice (splice (List.replicate (336 + l.length) 0) 256 (bytesOf ⟨#[0, 195, 80, 1]⟩)) 308 (bytesOf s)).set 327 kd).set 328 rom).set 329 ram).set 333 (sumTo (((((splice (splice (List.replicate (336 + l.length) 0) 256 (bytesOf ⟨#[0, 195, 80, 1]⟩)) 308 (bytesOf s)).set 327 kd).set 328 rom).set 329 ram).take 336) 25)) 336 l) = some wv) :
    Calls Try.prog 12 #[.string s, .int .u8 kd, .int .u8 rom, .int .u8 ram, .slice A l.length c] w fun e' w' => ∃ v0_ : Value, e' = .returned (.tuple #[v0_, .int .i64 0]) ∧ Kd.R (Kd.int .u8) 5 w' w.heap.size (fun _ => True) v0_ (((splice (((((splice (splice (List.replicate (336 + l.length) 0) 256 (bytesOf ⟨#[0, 195, 80, 1]⟩)) 308 (bytesOf s)).set 327 kd).set 328 rom).set 329 ram).set 333 (sumTo (((((splice (splice (List.replicate (336 + l.length) 0) 256 (bytesOf ⟨#[0, 195, 80, 1]⟩)) 308 (bytesOf s)).set 327 kd).set 328 rom).set 329 ram).take 336) 25)) 336 l).set 334 (wv / 256 % 256)).set 335 (wv % 256)) ∧ Below w.heap.size w w' := by
  have hmf : ∀ (fn : Fn) (first cap : Array Value) (w : World), (Instr.makeFunc fn first cap).run Try.prog w = .ok (.func fn first cap) w := fun _ _ _ _ => rfl
  have HR := Aside0.mk hr
  clear hr
  go_enter_defers Try.func12, Try.ntmps12
  go_wp2_with fail
  have z1 := heap_alloc_new w (.cells #[.int .i64 0] 27)
  have z2 := below_alloc (Below.refl w.heap.size w) (.cells #[.int .i64 0] 27)
  generalize w.alloc (.cells #[.int .i64 0] 27) = W0 at z1 z2 ⊢
  refine (need_ok 1 _).mono ?_
  rintro e' w' ⟨rfl, hw⟩
  replace hw := hw.symm
  subst hw
  go_wp2_with fail
  go_loopw [24] (fun i w' => ∃ (j : Nat), i = .int .i64 j ∧ Aside0 (j ≤ s.size ∧ w'.heap[w.heap.size]? = some (.cells #[.int .i64 0] 27 (0, 0)) ∧ Below w.heap.size w w')) (fun i _ => 20 - (intOf i).toNat)
  case atStart => exact ⟨0, rfl, Aside0.mk ⟨by omega, z1, z2⟩⟩
  case round =>
    obtain ⟨j, rfl, HA⟩ := hrel
    obtain ⟨hj, z1, z2⟩ := HA.out
    clear HA
    by_cases hjJ : j = s.size
    · have hpr' := hpr
      clear hpr
      have h16 : (j : Int) ≤ 16 := by omega
      have hge : ¬ (j : Int) < (s.size : Int) := by omega
      go_wp2_with fail
      refine (header_ware.calls kd hk _).mono ?_
      rintro e' w1 ⟨rfl, hb⟩
      have B1 := blk_below z1 hb
      have B2 := Below.trans z2 (hb.mono z2.size)
      rw [hok]
      go_wp2_with fail
      refine (need_ok 4 _).mono ?_
      rintro e' w' ⟨rfl, rfl⟩
      have D1 := blk_alloc B1 (.cells #[.string ⟨#[]⟩, .int .u8 kd, .int .i64 (wareT kd).1, .bool (wareT kd).2.1, .bool (wareT kd).2.2.1, .bool (wareT kd).2.2.2.1, .int .i64 0, .int .i64 0, .int .u8 0, .int .u16 0] 26)
      have D2 := below_alloc B2 (.cells #[.string ⟨#[]⟩, .int .u8 kd, .int .i64 (wareT kd).1, .bool (wareT kd).2.1, .bool (wareT kd).2.2.1, .bool (wareT kd).2.2.2.1, .int .i64 0, .int .i64 0, .int .u8 0, .int .u16 0] 26)
      generalize w1.alloc (.cells #[.string ⟨#[]⟩, .int .u8 kd, .int .i64 (wareT kd).1, .bool (wareT kd).2.1, .bool (wareT kd).2.2.1, .bool (wareT kd).2.2.2.1, .int .i64 0, .int .i64 0, .int .u8 0, .int .u16 0] 26) = W1 at D1 D2 ⊢
      clear z1 z2 B1 B2 hb
      go_wp2_with fail
      (with_reducible refine (header_most.calls rom _ _ (by unfold header_most.f; rw [if_pos h80])).mono ?_)
      rintro e' w' ⟨rfl, ⟨nd, rfl⟩⟩
      go_wp2_with fail
      refine (need_ok 5 _).mono ?_
      rintro e' w' ⟨rfl, rfl⟩
      have E1 := blk_drewN D1 nd
      have E2 := pw_below_drewN D2 nd
      generalize W1.drewN nd = W2 at E1 E2 ⊢
      clear D1 D2
      have hn : (l.length : Int) ≤ 8388272 := Int.le_trans (of_decide_eq_true hm) (most_le rom h80 (of_decide_eq_true h8))
      have hw1 : wrap64 (336 + (l.length : Int)) = 336 + (l.length : Int) := by unfold wrap64; omega
      have hgt : w.heap.size < W2.heap.size := blk_lt E1
      obtain ⟨w3, hmk, R3, K3, B3⟩ := makeRow W2 l.length hn
      have E1 := K3 _ _ _ E1
      have E2 := B3 w E2
      generalize W2.heap.size = g at hgt hmk R3
      have hne : ¬ w.heap.size = g := by omega
      have hz1 : (List.replicate (336 + l.length) (0 : Int)).length = 336 + l.length := by simp
      obtain ⟨w4, hc4, R4, K4, B4⟩ := R3.copyStr 256 80 ⟨#[0, 195, 80, 1]⟩ (by decide) (by rw [hz1]; show 256 + 4 ≤ _; omega)
      have hz2 : (splice (List.replicate (336 + l.length) 0) 256 (bytesOf ⟨#[0, 195, 80, 1]⟩)).length = 336 + l.length := by rw [length_splice _ _ _ (by rw [hz1, bytesOf_length]; show 256 + 4 ≤ _; omega), hz1]
      obtain ⟨w5, hc5, R5, K5, B5⟩ := R4.copyStr 308 28 s (by omega) (by rw [hz2]; omega)
      have hz3 : (splice (splice (List.replicate (336 + l.length) 0) 256 (bytesOf ⟨#[0, 195, 80, 1]⟩)) 308 (bytesOf s)).length = 336 + l.length := by rw [length_splice _ _ _ (by rw [hz2, bytesOf_length]; omega), hz2]
      have E1 := (K5 _ hne).trans ((K4 _ hne).trans E1)
      have E2 := B5 _ _ (by omega) (B4 _ _ (by omega) E2)
      have x327 := R5.cell 327 (by rw [hz3]; omega)
      have x328 := R5.cell 328 (by rw [hz3]; omega)
      have x329 := R5.cell 329 (by rw [hz3]; omega)
      have fz := fun i => R5.frozen i
      go_wp2_with fail
      have R6 := ((R5.put 327 kd).put 328 rom).put 329 ram
      have E1 : (((w5.setCell ⟨g, 327, none⟩ (.int .u8 kd)).setCell ⟨g, 328, none⟩ (.int .u8 rom)).setCell ⟨g, 329, none⟩ (.int .u8 ram)).heap[w.heap.size]? = some (.cells #[.int .i64 0] 27 (0, 0)) := blk_far (blk_far (blk_far E1 hne _) hne _) hne _
      have E2 : Below w.heap.size w (((w5.setCell ⟨g, 327, none⟩ (.int .u8 kd)).setCell ⟨g, 328, none⟩ (.int .u8 rom)).setCell ⟨g, 329, none⟩ (.int .u8 ram)) := below_set (below_set (below_set E2 (by omega)) (by omega)) (by omega)
      clear x327 x328 x329 fz hc4 hc5 hmk R3 R4 R5 K3 K4 K5 B3 B4 B5
      generalize (((w5.setCell ⟨g, 327, none⟩ (.int .u8 kd)).setCell ⟨g, 328, none⟩ (.int .u8 rom)).setCell ⟨g, 329, none⟩ (.int .u8 ram)) = w6 at R6 E1 E2 ⊢
      have hz4 : ((((splice (splice (List.replicate (336 + l.length) 0) 256 (bytesOf ⟨#[0, 195, 80, 1]⟩)) 308 (bytesOf s)).set 327 kd).set 328 rom).set 329 ram).length = 336 + l.length := by rw [List.length_set, List.length_set, List.length_set, hz3]
      have hl3 : (((((splice (splice (List.replicate (336 + l.length) 0) 256 (bytesOf ⟨#[0, 195, 80, 1]⟩)) 308 (bytesOf s)).set 327 kd).set 328 rom).set 329 ram).take 336).length = 336 := by rw [List.length_take, hz4]; omega
      have q := header_sum.calls (some ⟨g, 0, none⟩) (336 + l.length) (((((splice (splice (List.replicate (336 + l.length) 0) 256 (bytesOf ⟨#[0, 195, 80, 1]⟩)) 308 (bytesOf s)).set 327 kd).set 328 rom).set 329 ram).take 336) (sumTo (((((splice (splice (List.replicate (336 + l.length) 0) 256 (bytesOf ⟨#[0, 195, 80, 1]⟩)) 308 (bytesOf s)).set 327 kd).set 328 rom).set 329 ram).take 336) 25) w6 (by rw [hl3]; exact R6.reads 336 (by omega) (by omega)) (by rw [hl3]; omega) (by unfold header_sum.f; rw [if_pos (by rw [hl3]; omega)])
      rw [hl3] at q
      refine q.mono ?_
      clear q
      rintro e' w' ⟨rfl, hw⟩
      replace hw := hw.symm
      subst hw
      have x333 := R6.cell 333 (by rw [hz4]; omega)
      have fz := fun i => R6.frozen i
      have R7 := R6.put 333 (sumTo (((((splice (splice (List.replicate (336 + l.length) 0) 256 (bytesOf ⟨#[0, 195, 80, 1]⟩)) 308 (bytesOf s)).set 327 kd).set 328 rom).set 329 ram).take 336) 25)
      have E1 := blk_far (p := ⟨g, 333, none⟩) E1 hne (.int .u8 (sumTo (((((splice (splice (List.replicate (336 + l.length) 0) 256 (bytesOf ⟨#[0, 195, 80, 1]⟩)) 308 (bytesOf s)).set 327 kd).set 328 rom).set 329 ram).take 336) 25))
      have E2 := below_set (j := 333) (v := .int .u8 (sumTo (((((splice (splice (List.replicate (336 + l.length) 0) 256 (bytesOf ⟨#[0, 195, 80, 1]⟩)) 308 (bytesOf s)).set 327 kd).set 328 rom).set 329 ram).take 336) 25)) E2 (show w.heap.size ≤ g by omega)
      have hz7 : (((((splice (splice (List.replicate (336 + l.length) 0) 256 (bytesOf ⟨#[0, 195, 80, 1]⟩)) 308 (bytesOf s)).set 327 kd).set 328 rom).set 329 ram).set 333 (sumTo (((((splice (splice (List.replicate (336 + l.length) 0) 256 (bytesOf ⟨#[0, 195, 80, 1]⟩)) 308 (bytesOf s)).set 327 kd).set 328 rom).set 329 ram).take 336) 25)).length = 336 + l.length := by rw [List.length_set, hz4]
      obtain ⟨w8, ha, R8, K8, B8⟩ := R7.append 336 (336 + l.length) A c l (Kd.C_below HR.out E2) (Nat.le_refl _) (by rw [hz7]; omega)
      have E1 := (K8 _ hne).trans E1
      have E2 := B8 _ _ (by omega) E2
      have hz8 : (splice (((((splice (splice (List.replicate (336 + l.length) 0) 256 (bytesOf ⟨#[0, 195, 80, 1]⟩)) 308 (bytesOf s)).set 327 kd).set 328 rom).set 329 ram).set 333 (sumTo (((((splice (splice (List.replicate (336 + l.length) 0) 256 (bytesOf ⟨#[0, 195, 80, 1]⟩)) 308 (bytesOf s)).set 327 kd).set 328 rom).set 329 ram).take 336) 25)) 336 l).length = 336 + l.length := by rw [length_splice _ _ _ (by rw [hz7]; omega), hz7]
      go_wp2_with (at_builtin; refine wpList_append_run rfl _ _ 22 rfl _ _ _ rfl rfl ha ?_)
      have q := header_Whole.calls kW (some ⟨g, 0, none⟩) (336 + l.length) (splice (((((splice (splice (List.replicate (336 + l.length) 0) 256 (bytesOf ⟨#[0, 195, 80, 1]⟩)) 308 (bytesOf s)).set 327 kd).set 328 rom).set 329 ram).set 333 (sumTo (((((splice (splice (List.replicate (336 + l.length) 0) 256 (bytesOf ⟨#[0, 195, 80, 1]⟩)) 308 (bytesOf s)).set 327 kd).set 328 rom).set 329 ram).take 336) 25)) 336 l) wv w8 (by rw [hz8]; have z := R8.reads (336 + l.length) (by omega) (by omega); rwa [List.take_of_length_le (by omega)] at z) (by rw [hz8]; omega) hW
      rw [hz8] at q
      refine q.mono ?_
      clear q
      rintro e' w' ⟨rfl, ⟨nW, rfl⟩⟩
      have R9 : RowL (w8.drewN nW) g (splice (((((splice (splice (List.replicate (336 + l.length) 0) 256 (bytesOf ⟨#[0, 195, 80, 1]⟩)) 308 (bytesOf s)).set 327 kd).set 328 rom).set 329 ram).set 333 (sumTo (((((splice (splice (List.replicate (336 + l.length) 0) 256 (bytesOf ⟨#[0, 195, 80, 1]⟩)) 308 (bytesOf s)).set 327 kd).set 328 rom).set 329 ram).take 336) 25)) 336 l) := blk_drewN R8 nW
      have E1 := blk_drewN E1 nW
      have E2 := pw_below_drewN E2 nW
      clear ha R6 R7 R8 K8 B8 x333 fz
      generalize w8.drewN nW = w9 at R9 E1 E2 ⊢
      have x334 := R9.cell 334 (by rw [hz8]; omega)
      have x335 := R9.cell 335 (by rw [hz8]; omega)
      have fz := fun i => R9.frozen i
      have e0 : w9.cell? ⟨w.heap.size, 0, none⟩ = some (.int .i64 0) := (blk_cell E1 0).trans rfl
      have fe := fun i => blk_frozen E1 i
      have hne2 : ¬ g = w.heap.size := by omega
      have hwa : (334 : Int) < 336 + (l.length : Int) := by omega
      have hwb : (335 : Int) < 336 + (l.length : Int) := by omega
      go_wp2_with fail
      have R10 := ((R9.put 334 (wv / 256 % 256)).put 335 (wv % 256)).far hne2 0 (.int .i64 0)
      have m1 : (((w9.setCell ⟨g, 334, none⟩ (.int .u8 (wv / 256 % 256))).setCell ⟨g, 335, none⟩ (.int .u8 (wv % 256))).setCell ⟨w.heap.size, 0, none⟩ (.int .i64 0)).heap[w.heap.size]? = some (.cells #[.int .i64 0] 27 (0, 0)) := blk_put (blk_far (blk_far E1 hne _) hne _) 0 _ rfl
      have m2 : Below w.heap.size w (((w9.setCell ⟨g, 334, none⟩ (.int .u8 (wv / 256 % 256))).setCell ⟨g, 335, none⟩ (.int .u8 (wv % 256))).setCell ⟨w.heap.size, 0, none⟩ (.int .i64 0)) := below_set (below_set (below_set E2 (by omega)) (by omega)) (Nat.le_refl _)
      clear x334 x335 fz e0 fe hwa hwb E1 E2 R9
      generalize (((w9.setCell ⟨g, 334, none⟩ (.int .u8 (wv / 256 % 256))).setCell ⟨g, 335, none⟩ (.int .u8 (wv % 256))).setCell ⟨w.heap.size, 0, none⟩ (.int .i64 0)) = Y at R10 m1 m2 ⊢
      have v0 : Y.cell? ⟨w.heap.size, 0, none⟩ = some (.int .i64 0) := (blk_cell m1 0).trans rfl
      have hz10 : (((splice (((((splice (splice (List.replicate (336 + l.length) 0) 256 (bytesOf ⟨#[0, 195, 80, 1]⟩)) 308 (bytesOf s)).set 327 kd).set 328 rom).set 329 ram).set 333 (sumTo (((((splice (splice (List.replicate (336 + l.length) 0) 256 (bytesOf ⟨#[0, 195, 80, 1]⟩)) 308 (bytesOf s)).set 327 kd).set 328 rom).set 329 ram).take 336) 25)) 336 l).set 334 (wv / 256 % 256)).set 335 (wv % 256)).length = 336 + l.length := by rw [List.length_set, List.length_set, hz8]
      have hv := R10.row (base := w.heap.size) (by omega) (by rw [hz10]; simp only [maxLen]; omega)
      rw [hz10] at hv
      refine leaves_cons (f := 28) (args := #[.pointer (some ⟨w.heap.size, 0, none⟩)]) (by simp) (by simp [go_sem]) ?_
      refine (make_idle ⟨w.heap.size, 0, none⟩ _).mono ?_
      rintro e u' w'' ⟨rfl, rfl, rfl⟩
      simp [Leaves, settle, results, Try.results12, go_sem, v0]
      exact ⟨hv, m2⟩

    have hb := hpr j (by omega)
    have p9 : 0 ≤ (j : Int) := by omega
    have q9 : (j : Int) < (s.size : Int) := by omega
    have hx9 := bt_at s (j : Int)
    have q9' := q9
    replace p9 := eq_true p9
    replace q9 := eq_true q9
    have hjs : j < s.size := by omega
    have hbt : bt s (j : Int) = ((s[j]'hjs).toNat : Int) := by simp [bt, hjs]
    rw [hbt] at hb
    clear hx9
    go_wp2_with fail
    (with_reducible refine (header_printable.calls _ _ _ (prb_calls _)).mono ?_)
    rintro e' w' ⟨rfl, ⟨nd, rfl⟩⟩
    rw [hb]
    go_wp2_with fail
    refine (need_ok 1 _).mono ?_
    rintro e' w' ⟨rfl, rfl⟩
    go_wp2_with fail
    exact ⟨⟨j + 1, by simp, Aside0.mk ⟨by omega, blk_drewN z1 nd, pw_below_drewN z2 nd⟩⟩, by simp [intOf]; omega⟩
end Go.Proofs.Ytmlpijlnchnabaa.Hand
