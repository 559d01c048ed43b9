/- TimerRate by hand: the loop over k periods of Steps. -/
import Derived.Test.YtjfpbdecklkldaaG4
import Derived.Test.YtjfpbdecklkldaaG17
import Derived.Test.YtjfpbdecklkldaaG6
import Derived.Deep.MidRow
import Derived.Handy
namespace Go.Proofs.Ytjfpbdecklkldaa.Hand
open Go.RowKit
open Go.Proofs.Ytjfpbdecklkldaa.G
open Go.Proofs.YtjfpbdecklkldaaW.PrintWords Go.Proofs.YtjfpbdecklkldaaW.PrintLast Go.Proofs.YtjfpbdecklkldaaW.PrintMore
set_option linter.unusedVariables false
set_option linter.unusedSimpArgs false
def rateIt (kk : Nat) : Nat → (Int × Int × Int × Int × Int) → Option (Int × Int × Int × Int × Int)
  | 0, b => some b
  | n + 1, b => (timer_Step.f kk b.1 b.2.1 b.2.2.1 b.2.2.2.1 b.2.2.2.2).bind fun r => if r.2.2.2.2.2 = false then rateIt kk n (r.1, r.2.1, r.2.2.1, r.2.2.2.1, r.2.2.2.2.1) else none
theorem blk_at1 (w : World) (A B : Obj) : ((w.alloc A).alloc B).heap[w.heap.size + 1]? = some B := by
  have z := heap_alloc_new (w.alloc A) B
  have e : (w.alloc A).heap.size = w.heap.size + 1 := by simp
  rwa [e] at z
set_option maxRecDepth 100000 in
set_option maxHeartbeats 4000000 in
theorem rate_calls (k : Nat) (d t m c s q : Int) (p : Int) (hup : whirligiglaw11_shown.f k = some true) (hp : whirligiglaw11_period.f c = some p) (b1 b2 b3 b4 b5 : Int) (hit : rateIt k (wrap64 (wrap64 (Int.tmod q 8) * p)).toNat (d, Int.tmod t 200, m, c, 0) = some (b1, b2, b3, b4, b5)) (he : wrap64 b2 = if Go.bits .and .u8 c 4 = 0 then wrap64 (Int.tmod t 200) else wrap64 (wrap64 (Int.tmod t 200) + wrap64 (Int.tmod q 8))) (hs : b5 = 0) (w : World) :
    Calls Try.prog 7 #[.agg #[.int .u16 d, .int .u8 t, .int .u8 m, .int .u8 c, .int .u8 s], .int .u8 q] w fun e w' => e = .returned (.bool true) ∧ Below w.heap.size w w' := by
  have HU := Aside0.mk hup
  have HP := Aside0.mk hp
  have HI := Aside0.mk hit
  have HE := Aside0.mk he
  clear hup hp hit he
  go_enter Try.func7, Try.ntmps7
  go_wp2_with fail
  refine (whirligiglaw11_shown.calls k true _ HU.out).mono ?_
  rintro e' w1 ⟨rfl, hb⟩
  have BT := Aside0.mk ((hb.block w.heap.size (by simp)).trans (heap_alloc_new w (.cells #[.int .u16 d, .int .u8 t, .int .u8 m, .int .u8 c, .int .u8 s] 24)))
  have HB := Aside0.mk (Below.trans (below_alloc (Below.refl w.heap.size w) _) (hb.mono (by simp)))
  have hz : w.heap.size < w1.heap.size := blk_lt BT.out
  have hne : ¬ w.heap.size = w1.heap.size := by omega
  clear hb
  have k0 : w1.cell? ⟨w.heap.size, 0, none⟩ = some (.int .u16 d) := (blk_cell BT.out 0).trans rfl
  have k1 : w1.cell? ⟨w.heap.size, 1, none⟩ = some (.int .u8 t) := (blk_cell BT.out 1).trans rfl
  have k2 : w1.cell? ⟨w.heap.size, 2, none⟩ = some (.int .u8 m) := (blk_cell BT.out 2).trans rfl
  have k3 : w1.cell? ⟨w.heap.size, 3, none⟩ = some (.int .u8 c) := (blk_cell BT.out 3).trans rfl
  have k4 : w1.cell? ⟨w.heap.size, 4, none⟩ = some (.int .u8 s) := (blk_cell BT.out 4).trans rfl
  have m0 : ∀ o o', ((w1.alloc o).alloc o').cell? ⟨w.heap.size, 0, none⟩ = some (.int .u16 d) := fun o o' => (blk_cell (blk_alloc (blk_alloc BT.out o) o') 0).trans rfl
  have m1 : ∀ o o', ((w1.alloc o).alloc o').cell? ⟨w.heap.size, 1, none⟩ = some (.int .u8 t) := fun o o' => (blk_cell (blk_alloc (blk_alloc BT.out o) o') 1).trans rfl
  have m2 : ∀ o o', ((w1.alloc o).alloc o').cell? ⟨w.heap.size, 2, none⟩ = some (.int .u8 m) := fun o o' => (blk_cell (blk_alloc (blk_alloc BT.out o) o') 2).trans rfl
  have m3 : ∀ o o', ((w1.alloc o).alloc o').cell? ⟨w.heap.size, 3, none⟩ = some (.int .u8 c) := fun o o' => (blk_cell (blk_alloc (blk_alloc BT.out o) o') 3).trans rfl
  have m4 : ∀ o o', ((w1.alloc o).alloc o').cell? ⟨w.heap.size, 4, none⟩ = some (.int .u8 s) := fun o o' => (blk_cell (blk_alloc (blk_alloc BT.out o) o') 4).trans rfl
  have c0 : ∀ o, (w1.alloc o).cell? ⟨w.heap.size, 0, none⟩ = some (.int .u16 d) := fun o => (blk_cell (blk_alloc BT.out o) 0).trans rfl
  have c1 : ∀ o, (w1.alloc o).cell? ⟨w.heap.size, 1, none⟩ = some (.int .u8 t) := fun o => (blk_cell (blk_alloc BT.out o) 1).trans rfl
  have c2 : ∀ o, (w1.alloc o).cell? ⟨w.heap.size, 2, none⟩ = some (.int .u8 m) := fun o => (blk_cell (blk_alloc BT.out o) 2).trans rfl
  have c3 : ∀ o, (w1.alloc o).cell? ⟨w.heap.size, 3, none⟩ = some (.int .u8 c) := fun o => (blk_cell (blk_alloc BT.out o) 3).trans rfl
  have c4 : ∀ o, (w1.alloc o).cell? ⟨w.heap.size, 4, none⟩ = some (.int .u8 s) := fun o => (blk_cell (blk_alloc BT.out o) 4).trans rfl
  go_wp2_with fail

  have bt := BT.out
  have ba := blk_alloc (blk_new w1 (.cells #[.int .u16 d, .int .u8 (Int.tmod t 200), .int .u8 m, .int .u8 c, .int .u8 0] 24 (0, 0))) (.cells #[.int .u16 d, .int .u8 (Int.tmod t 200), .int .u8 m, .int .u8 c, .int .u8 0] 24 (0, 0))
  have bb := blk_at1 w1 (.cells #[.int .u16 d, .int .u8 (Int.tmod t 200), .int .u8 m, .int .u8 c, .int .u8 0] 24 (0, 0)) (.cells #[.int .u16 d, .int .u8 (Int.tmod t 200), .int .u8 m, .int .u8 c, .int .u8 0] 24 (0, 0))
  have hb2 := below_alloc (below_alloc HB.out (.cells #[.int .u16 d, .int .u8 (Int.tmod t 200), .int .u8 m, .int .u8 c, .int .u8 0] 24 (0, 0))) (.cells #[.int .u16 d, .int .u8 (Int.tmod t 200), .int .u8 m, .int .u8 c, .int .u8 0] 24 (0, 0))
  have HZ := Aside0.mk hz
  have hgn : (w.heap.size : Nat) ≠ w1.heap.size + 1 := by omega
  have hgm : (w.heap.size : Nat) ≠ w1.heap.size := by omega
  go_loopw [9, 10] (fun x i w' => ∃ (j : Nat) (x1 x2 x3 x4 x5 : Int), x = .bool false ∧ i = .int .i64 j ∧ Aside0 (j ≤ (wrap64 (wrap64 (Int.tmod q 8) * p)).toNat ∧ w'.heap[w.heap.size]? = some (.cells #[.int .u16 d, .int .u8 t, .int .u8 m, .int .u8 c, .int .u8 s] 24 (0, 0)) ∧ w'.heap[w1.heap.size]? = some (.cells #[.int .u16 d, .int .u8 (Int.tmod t 200), .int .u8 m, .int .u8 c, .int .u8 0] 24 (0, 0)) ∧ w'.heap[w1.heap.size + 1]? = some (.cells #[.int .u16 x1, .int .u8 x2, .int .u8 x3, .int .u8 x4, .int .u8 x5] 24 (0, 0)) ∧ Below w.heap.size w w' ∧ rateIt k ((wrap64 (wrap64 (Int.tmod q 8) * p)).toNat - j) (x1, x2, x3, x4, x5) = some (b1, b2, b3, b4, b5))) (fun _ i _ => (wrap64 (wrap64 (Int.tmod q 8) * p)).toNat - (intOf i).toNat)
  case atStart => exact ⟨0, _, _, _, _, _, rfl, rfl, Aside0.mk ⟨by omega, blk_alloc (blk_alloc bt _) _, ba, bb, hb2, HI.out⟩⟩
  case round =>
    clear c0 c1 c2 c3 c4 k0 k1 k2 k3 k4 m0 m1 m2 m3 m4 bt ba bb hb2 hne BT HB
    obtain ⟨j, x1, x2, x3, x4, x5, rfl, rfl, HA⟩ := hrel
    obtain ⟨hj, bt, ba, bb, hb, H⟩ := HA.out
    clear HA
    have BT := Aside0.mk bt
    have BA := Aside0.mk ba
    have BB := Aside0.mk bb
    have HB := Aside0.mk hb
    clear bt ba bb hb
    have hw : wrap64 (wrap64 (Int.tmod q 8) * p) ≤ 9223372036854775807 := by unfold wrap64; omega
    generalize hN : wrap64 (wrap64 (Int.tmod q 8) * p) = N at *
    have ct0 : wr.cell? ⟨w.heap.size, 0, none⟩ = some (.int .u16 d) := (blk_cell BT.out 0).trans rfl
    have ct1 : wr.cell? ⟨w.heap.size, 1, none⟩ = some (.int .u8 t) := (blk_cell BT.out 1).trans rfl
    have ct2 : wr.cell? ⟨w.heap.size, 2, none⟩ = some (.int .u8 m) := (blk_cell BT.out 2).trans rfl
    have ct3 : wr.cell? ⟨w.heap.size, 3, none⟩ = some (.int .u8 c) := (blk_cell BT.out 3).trans rfl
    have ct4 : wr.cell? ⟨w.heap.size, 4, none⟩ = some (.int .u8 s) := (blk_cell BT.out 4).trans rfl
    have ca0 : wr.cell? ⟨w1.heap.size, 0, none⟩ = some (.int .u16 d) := (blk_cell BA.out 0).trans rfl
    have ca1 : wr.cell? ⟨w1.heap.size, 1, none⟩ = some (.int .u8 (Int.tmod t 200)) := (blk_cell BA.out 1).trans rfl
    have ca2 : wr.cell? ⟨w1.heap.size, 2, none⟩ = some (.int .u8 m) := (blk_cell BA.out 2).trans rfl
    have ca3 : wr.cell? ⟨w1.heap.size, 3, none⟩ = some (.int .u8 c) := (blk_cell BA.out 3).trans rfl
    have ca4 : wr.cell? ⟨w1.heap.size, 4, none⟩ = some (.int .u8 0) := (blk_cell BA.out 4).trans rfl
    have cb0 : wr.cell? ⟨(w1.heap.size + 1), 0, none⟩ = some (.int .u16 x1) := (blk_cell BB.out 0).trans rfl
    have cb1 : wr.cell? ⟨(w1.heap.size + 1), 1, none⟩ = some (.int .u8 x2) := (blk_cell BB.out 1).trans rfl
    have cb2 : wr.cell? ⟨(w1.heap.size + 1), 2, none⟩ = some (.int .u8 x3) := (blk_cell BB.out 2).trans rfl
    have cb3 : wr.cell? ⟨(w1.heap.size + 1), 3, none⟩ = some (.int .u8 x4) := (blk_cell BB.out 3).trans rfl
    have cb4 : wr.cell? ⟨(w1.heap.size + 1), 4, none⟩ = some (.int .u8 x5) := (blk_cell BB.out 4).trans rfl
    have fz := fun i => blk_frozen BB.out i
    by_cases hlt : (j : Int) < N
    · obtain ⟨r, hr⟩ : ∃ r, N.toNat - j = r + 1 := ⟨N.toNat - j - 1, by omega⟩
      rw [hr] at H
      unfold rateIt at H
      dsimp only at H
      obtain ⟨⟨y1, y2, y3, y4, y5, y6⟩, hst, H⟩ := Option.bind_eq_some_iff.mp H
      dsimp only at H
      have hy : y6 = false := by cases y6 with | false => rfl | true => simp at H
      subst hy
      rw [if_pos rfl] at H
      have HS := Aside0.mk hst
      have HH := Aside0.mk H
      have HN := Aside0.mk hN
      clear hst H
      go_wp2_with (first | (go_at_call 17; ((with_reducible refine (whirligiglaw11_period.calls c p _ HP.out).mono ?_)); rintro e' w3 ⟨rfl, ⟨nd, rfl⟩⟩) | (go_at_call 13; ((with_reducible refine (timer_Step.calls k x1 x2 x3 x4 x5 y1 y2 y3 y4 y5 false _ HS.out).mono ?_)); rintro e' w2 ⟨rfl, hb⟩; have q0 := Aside0.mk (blk_below (blk_drewN BT.out _) hb); have q1 := Aside0.mk (blk_below (blk_drewN BA.out _) hb); have q2 := Aside0.mk (blk_below (blk_drewN BB.out _) hb); have q3 := Aside0.mk (below_step (pw_below_drewN HB.out _) hb); clear hb ct0 ct1 ct2 ct3 ct4 ca0 ca1 ca2 ca3 ca4 cb0 cb1 cb2 cb3 cb4 fz; have ct0 : w2.cell? ⟨w.heap.size, 0, none⟩ = some (.int .u16 d) := (blk_cell q0.out 0).trans rfl; have ct1 : w2.cell? ⟨w.heap.size, 1, none⟩ = some (.int .u8 t) := (blk_cell q0.out 1).trans rfl; have ct2 : w2.cell? ⟨w.heap.size, 2, none⟩ = some (.int .u8 m) := (blk_cell q0.out 2).trans rfl; have ct3 : w2.cell? ⟨w.heap.size, 3, none⟩ = some (.int .u8 c) := (blk_cell q0.out 3).trans rfl; have ct4 : w2.cell? ⟨w.heap.size, 4, none⟩ = some (.int .u8 s) := (blk_cell q0.out 4).trans rfl; have ca0 : w2.cell? ⟨w1.heap.size, 0, none⟩ = some (.int .u16 d) := (blk_cell q1.out 0).trans rfl; have ca1 : w2.cell? ⟨w1.heap.size, 1, none⟩ = some (.int .u8 (Int.tmod t 200)) := (blk_cell q1.out 1).trans rfl; have ca2 : w2.cell? ⟨w1.heap.size, 2, none⟩ = some (.int .u8 m) := (blk_cell q1.out 2).trans rfl; have ca3 : w2.cell? ⟨w1.heap.size, 3, none⟩ = some (.int .u8 c) := (blk_cell q1.out 3).trans rfl; have ca4 : w2.cell? ⟨w1.heap.size, 4, none⟩ = some (.int .u8 0) := (blk_cell q1.out 4).trans rfl; have cb0 : w2.cell? ⟨(w1.heap.size + 1), 0, none⟩ = some (.int .u16 x1) := (blk_cell q2.out 0).trans rfl; have cb1 : w2.cell? ⟨(w1.heap.size + 1), 1, none⟩ = some (.int .u8 x2) := (blk_cell q2.out 1).trans rfl; have cb2 : w2.cell? ⟨(w1.heap.size + 1), 2, none⟩ = some (.int .u8 x3) := (blk_cell q2.out 2).trans rfl; have cb3 : w2.cell? ⟨(w1.heap.size + 1), 3, none⟩ = some (.int .u8 x4) := (blk_cell q2.out 3).trans rfl; have cb4 : w2.cell? ⟨(w1.heap.size + 1), 4, none⟩ = some (.int .u8 x5) := (blk_cell q2.out 4).trans rfl; have fz := fun i => blk_frozen q2.out i))
      have hgb : w.heap.size ≤ w1.heap.size + 1 := by have := HZ.out; omega
      have hh := HH.out
      rw [show r = N.toNat - (j + 1) by omega] at hh
      refine ⟨⟨j + 1, y1, y2, y3, y4, y5, rfl, rfl, Aside0.mk ⟨by omega, ?_, ?_, ?_, ?_, hh⟩⟩, ?_⟩
      · repeat (first | (with_reducible exact q0.out) | refine blk_far ?_ hgn _)
      · repeat (first | (with_reducible exact q1.out) | refine blk_far ?_ (by simp) _)
      · exact (blk_put (blk_put (blk_put (blk_put (blk_put q2.out 0 _ rfl) 1 _ rfl) 2 _ rfl) 3 _ rfl) 4 _ rfl)
      · exact (below_set (below_set (below_set (below_set (below_set q3.out hgb) hgb) hgb) hgb) hgb)
      · simp [intOf]; omega
    · have hj2 : N.toNat - j = 0 := by omega
      rw [hj2] at H
      have HH := Aside0.mk H
      clear H
      unfold rateIt at HH
      have hh := HH.out
      clear HH
      simp only [Option.some.injEq, Prod.mk.injEq] at hh
      obtain ⟨rfl, rfl, rfl, rfl, rfl⟩ := hh
      subst hs
      have hE := HE.out
      subst hN
      by_cases hc4 : Go.bits .and .u8 c 4 = 0
      · rw [if_pos hc4] at hE
        go_wp2_with (first | (go_at_call 17; ((with_reducible refine (whirligiglaw11_period.calls c p _ HP.out).mono ?_)); rintro e' w3 ⟨rfl, ⟨nd, rfl⟩⟩))
        go_returns
        exact ⟨rfl, pw_below_drewN HB.out _⟩
      · rw [if_neg hc4] at hE
        go_wp2_with (first | (go_at_call 17; ((with_reducible refine (whirligiglaw11_period.calls c p _ HP.out).mono ?_)); rintro e' w3 ⟨rfl, ⟨nd, rfl⟩⟩))
        go_returns
        exact ⟨rfl, pw_below_drewN HB.out _⟩
def whirligiglaw11_TimerRate.f (k : Nat) (a0_0 a0_1 a0_2 a0_3 a0_4 a1 : Int) : Option Bool :=
  (whirligiglaw11_shown.f k).bind fun up => (whirligiglaw11_period.f a0_3).bind fun p => (rateIt k (wrap64 (wrap64 (Int.tmod a1 8) * p)).toNat (a0_0, Int.tmod a0_1 200, a0_2, a0_3, 0)).bind fun b =>
  if up = true ∧ (wrap64 b.2.1 = if Go.bits .and .u8 a0_3 4 = 0 then wrap64 (Int.tmod a0_1 200) else wrap64 (wrap64 (Int.tmod a0_1 200) + wrap64 (Int.tmod a1 8))) ∧ b.2.2.2.2 = 0 then some true else none
theorem whirligiglaw11_TimerRate.calls (k : Nat) (a0_0 a0_1 a0_2 a0_3 a0_4 a1 : Int) (r : Bool) (w : World) (h : whirligiglaw11_TimerRate.f k a0_0 a0_1 a0_2 a0_3 a0_4 a1 = some r) :
    Calls Try.prog 7 #[.agg #[.int .u16 a0_0, .int .u8 a0_1, .int .u8 a0_2, .int .u8 a0_3, .int .u8 a0_4], .int .u8 a1] w fun e w' => e = .returned (.bool r) ∧ Below w.heap.size w w' := by
  unfold whirligiglaw11_TimerRate.f at h
  obtain ⟨up, hup, h1⟩ := Option.bind_eq_some_iff.mp h
  obtain ⟨p, hp, h2⟩ := Option.bind_eq_some_iff.mp h1
  obtain ⟨⟨b1, b2, b3, b4, b5⟩, hit, h3⟩ := Option.bind_eq_some_iff.mp h2
  clear h h1 h2
  rw [Option.ite_none_right_eq_some] at h3
  obtain ⟨⟨q1, q2, q3⟩, h4⟩ := h3
  have h5 := Option.some.inj h4
  subst h5
  subst q1
  exact rate_calls k _ _ _ _ _ _ p hup hp b1 b2 b3 b4 b5 hit q2 q3 w
end Go.Proofs.Ytjfpbdecklkldaa.Hand
