/- What the proof of the statement CartPlays stands on, part 3. (Packed by pack.py out of this session's texts.) -/
import Derived.Deep.MidRow
import Derived.Lib.EndianMore
import Derived.WalkMore
import Derived.Handy
import Derived.StillTailTactics
import Derived.Deep.RegionWith
import Derived.BigRegion
import Derived.Test.YtmjjojbedllmgaaQCartPlays0
import Derived.Test.YtmjjojbedllmgaaQCartPlays2
set_option linter.unusedVariables false
set_option linter.unusedSimpArgs false
set_option maxRecDepth 100000
set_option maxHeartbeats 20000000
open Go.RowKit Go.Proofs.YtmjjojbedllmgaaW.PrintWords Go.Proofs.YtmjjojbedllmgaaW.PrintLast Go.Proofs.YtmjjojbedllmgaaW.PrintMore Go.Proofs.Ytmjjojbedllmgaa.G
namespace Go.Proofs.Ytmjjojbedllmgaa.Hand
theorem tick_halt (a0 a1 a2 a3 : Int) (a4 a5 : Bool) (s m h d : Int) (cy : Bool) (hn : aV.f a0 a1 a2 a3 a4 a5 = some (s, m, h, d, true, cy))  (w : World) :
  Calls Try.prog 46 #[.agg #[.int .u8 a0, .int .u8 a1, .int .u8 a2, .int .u16 a3, .bool a4, .bool a5]] w fun e' w' => e' = .returned (.agg #[.int .u8 s, .int .u8 m, .int .u8 h, .int .u16 d, .bool true, .bool cy]) ∧ Below w.heap.size w w' := by
 have HN := ab.mk hn
 clear hn
 go_enter Try.func46, Try.ntmps46
 go_wp2_with fail
 have BK := ab.mk (ah (aC w (.cells #[.int .u8 a0, .int .u8 a1, .int .u8 a2, .int .u16 a3, .bool a4, .bool a5] 34)) (.cells #[.int .u8 0, .int .u8 0, .int .u8 0, .int .u16 0, .bool false, .bool false] 34))
 have e1 : (w.alloc (.cells #[.int .u8 a0, .int .u8 a1, .int .u8 a2, .int .u16 a3, .bool a4, .bool a5] 34)).heap.size = w.heap.size + 1 := by simp
 have zN := heap_alloc_new (w.alloc (.cells #[.int .u8 a0, .int .u8 a1, .int .u8 a2, .int .u16 a3, .bool a4, .bool a5] 34)) (.cells #[.int .u8 0, .int .u8 0, .int .u8 0, .int .u16 0, .bool false, .bool false] 34)
 rw [e1] at zN
 have BR := ab.mk zN
 have HB := ab.mk (ac (ac (Below.refl w.heap.size w) (.cells #[.int .u8 a0, .int .u8 a1, .int .u8 a2, .int .u16 a3, .bool a4, .bool a5] 34)) (.cells #[.int .u8 0, .int .u8 0, .int .u8 0, .int .u16 0, .bool false, .bool false] 34))
 clear zN e1
 have hz : ((w.alloc (.cells #[.int .u8 a0, .int .u8 a1, .int .u8 a2, .int .u16 a3, .bool a4, .bool a5] 34)).alloc (.cells #[.int .u8 0, .int .u8 0, .int .u8 0, .int .u16 0, .bool false, .bool false] 34)).heap.size = w.heap.size + 2 := by simp
 generalize (w.alloc (.cells #[.int .u8 a0, .int .u8 a1, .int .u8 a2, .int .u16 a3, .bool a4, .bool a5] 34)).alloc (.cells #[.int .u8 0, .int .u8 0, .int .u8 0, .int .u16 0, .bool false, .bool false] 34) = W at *
 obtain ⟨c0, c1, c2, c3, c4, c5⟩ := c6 BK.out
 have fz := fun i => ae BK.out i
 go_step3
 go_wp2_with (first | (go_at_call 66; ((with_reducible refine (aV.calls a0 a1 a2 a3 a4 a5 (s) (m) (h) (d) (true) (cy) _ HN.out).mono ?_)); rintro e' w1 ⟨rfl, hb⟩; have n0 := ab.mk ((hb.block w.heap.size (by rw [hz]; omega)).trans BK.out); have n1 := ab.mk ((hb.block (w.heap.size + 1) (by rw [hz]; omega)).trans BR.out); have n2 := ab.mk (Below.trans HB.out (hb.mono (by rw [hz]; omega))); clear hb BK BR HB c0 c1 c2 c3 c4 c5 fz; obtain ⟨c0, c1, c2, c3, c4, c5⟩ := c6 n0.out; obtain ⟨z0, z1, z2, z3, z4, z5⟩ := c6 n1.out; have fz := fun i => ae n0.out i; have fr := fun i => ae n1.out i))
 rw [Exit.noGoto_ret]
 obtain ⟨m1, m2⟩ := put6 (by repeat (first | (with_reducible exact n1.out) | refine al ?_ (by simp) _) : ((((((w1.setCell ⟨w.heap.size, 0, none⟩ (.int .u8 s)).setCell ⟨w.heap.size, 1, none⟩ (.int .u8 m)).setCell ⟨w.heap.size, 2, none⟩ (.int .u8 h)).setCell ⟨w.heap.size, 3, none⟩ (.int .u16 d)).setCell ⟨w.heap.size, 4, none⟩ (.bool true)).setCell ⟨w.heap.size, 5, none⟩ (.bool cy)).heap[w.heap.size + 1]? = some (.cells #[.int .u8 0, .int .u8 0, .int .u8 0, .int .u16 0, .bool false, .bool false] 34 (0, 0))) (ag (ag (ag (ag (ag (ag n2.out (Nat.le_refl _)) (Nat.le_refl _)) (Nat.le_refl _)) (Nat.le_refl _)) (Nat.le_refl _)) (Nat.le_refl _)) (Nat.le_succ _) (.int .u8 s) (.int .u8 m) (.int .u8 h) (.int .u16 d) (.bool true) (.bool cy)
 generalize ((((((((((((w1.setCell ⟨w.heap.size, 0, none⟩ (.int .u8 s)).setCell ⟨w.heap.size, 1, none⟩ (.int .u8 m)).setCell ⟨w.heap.size, 2, none⟩ (.int .u8 h)).setCell ⟨w.heap.size, 3, none⟩ (.int .u16 d)).setCell ⟨w.heap.size, 4, none⟩ (.bool true)).setCell ⟨w.heap.size, 5, none⟩ (.bool cy)).setCell ⟨w.heap.size + 1, 0, none⟩ (.int .u8 s)).setCell ⟨w.heap.size + 1, 1, none⟩ (.int .u8 m)).setCell ⟨w.heap.size + 1, 2, none⟩ (.int .u8 h)).setCell ⟨w.heap.size + 1, 3, none⟩ (.int .u16 d)).setCell ⟨w.heap.size + 1, 4, none⟩ (.bool true)).setCell ⟨w.heap.size + 1, 5, none⟩ (.bool cy)) = Y at m1 m2 ⊢
 obtain ⟨u0, u1, u2, u3, u4, u5⟩ := c6 m1
 exact bodyPost_ret (v := .agg #[.int .u8 s, .int .u8 m, .int .u8 h, .int .u16 d, .bool true, .bool cy]) (by simp [results, Try.results46, go_sem, u0, u1, u2, u3, u4, u5]) rfl ⟨rfl, m2⟩
theorem tick_sec (a0 a1 a2 a3 : Int) (a4 a5 : Bool) (s m h d : Int) (cy : Bool) (hn : aV.f a0 a1 a2 a3 a4 a5 = some (s, m, h, d, false, cy)) (hs : ¬ s = 59) (w : World) :
  Calls Try.prog 46 #[.agg #[.int .u8 a0, .int .u8 a1, .int .u8 a2, .int .u16 a3, .bool a4, .bool a5]] w fun e' w' => e' = .returned (.agg #[.int .u8 ((s + 1) % 64), .int .u8 m, .int .u8 h, .int .u16 d, .bool false, .bool cy]) ∧ Below w.heap.size w w' := by
 have HN := ab.mk hn
 clear hn
 go_enter Try.func46, Try.ntmps46
 go_wp2_with fail
 have BK := ab.mk (ah (aC w (.cells #[.int .u8 a0, .int .u8 a1, .int .u8 a2, .int .u16 a3, .bool a4, .bool a5] 34)) (.cells #[.int .u8 0, .int .u8 0, .int .u8 0, .int .u16 0, .bool false, .bool false] 34))
 have e1 : (w.alloc (.cells #[.int .u8 a0, .int .u8 a1, .int .u8 a2, .int .u16 a3, .bool a4, .bool a5] 34)).heap.size = w.heap.size + 1 := by simp
 have zN := heap_alloc_new (w.alloc (.cells #[.int .u8 a0, .int .u8 a1, .int .u8 a2, .int .u16 a3, .bool a4, .bool a5] 34)) (.cells #[.int .u8 0, .int .u8 0, .int .u8 0, .int .u16 0, .bool false, .bool false] 34)
 rw [e1] at zN
 have BR := ab.mk zN
 have HB := ab.mk (ac (ac (Below.refl w.heap.size w) (.cells #[.int .u8 a0, .int .u8 a1, .int .u8 a2, .int .u16 a3, .bool a4, .bool a5] 34)) (.cells #[.int .u8 0, .int .u8 0, .int .u8 0, .int .u16 0, .bool false, .bool false] 34))
 clear zN e1
 have hz : ((w.alloc (.cells #[.int .u8 a0, .int .u8 a1, .int .u8 a2, .int .u16 a3, .bool a4, .bool a5] 34)).alloc (.cells #[.int .u8 0, .int .u8 0, .int .u8 0, .int .u16 0, .bool false, .bool false] 34)).heap.size = w.heap.size + 2 := by simp
 generalize (w.alloc (.cells #[.int .u8 a0, .int .u8 a1, .int .u8 a2, .int .u16 a3, .bool a4, .bool a5] 34)).alloc (.cells #[.int .u8 0, .int .u8 0, .int .u8 0, .int .u16 0, .bool false, .bool false] 34) = W at *
 obtain ⟨c0, c1, c2, c3, c4, c5⟩ := c6 BK.out
 have fz := fun i => ae BK.out i
 go_step3
 go_wp2_with (first | (go_at_call 66; ((with_reducible refine (aV.calls a0 a1 a2 a3 a4 a5 (s) (m) (h) (d) (false) (cy) _ HN.out).mono ?_)); rintro e' w1 ⟨rfl, hb⟩; have n0 := ab.mk ((hb.block w.heap.size (by rw [hz]; omega)).trans BK.out); have n1 := ab.mk ((hb.block (w.heap.size + 1) (by rw [hz]; omega)).trans BR.out); have n2 := ab.mk (Below.trans HB.out (hb.mono (by rw [hz]; omega))); clear hb BK BR HB c0 c1 c2 c3 c4 c5 fz; obtain ⟨c0, c1, c2, c3, c4, c5⟩ := c6 n0.out; obtain ⟨z0, z1, z2, z3, z4, z5⟩ := c6 n1.out; have fz := fun i => ae n0.out i; have fr := fun i => ae n1.out i))
 obtain ⟨m0, m2⟩ := put6 n0.out n2.out (Nat.le_refl _) (.int .u8 s) (.int .u8 m) (.int .u8 h) (.int .u16 d) (.bool false) (.bool cy)
 have m1 := far6 (g := w.heap.size) n1.out (by omega) (.int .u8 s) (.int .u8 m) (.int .u8 h) (.int .u16 d) (.bool false) (.bool cy)
 generalize ((((((w1.setCell ⟨w.heap.size, 0, none⟩ (.int .u8 s)).setCell ⟨w.heap.size, 1, none⟩ (.int .u8 m)).setCell ⟨w.heap.size, 2, none⟩ (.int .u8 h)).setCell ⟨w.heap.size, 3, none⟩ (.int .u16 d)).setCell ⟨w.heap.size, 4, none⟩ (.bool false)).setCell ⟨w.heap.size, 5, none⟩ (.bool cy)) = X at m0 m1 m2 ⊢
 clear n0 n1 n2 c0 c1 c2 c3 c4 c5 z0 z1 z2 z3 z4 z5 fz fr hz
 have BK := ab.mk m0
 have BR := ab.mk m1
 have HB := ab.mk m2
 clear m0 m1 m2
 obtain ⟨c0, c1, c2, c3, c4, c5⟩ := c6 BK.out
 obtain ⟨z0, z1, z2, z3, z4, z5⟩ := c6 BR.out
 have fz := fun i => ae BK.out i
 have fr := fun i => ae BR.out i
 go_step3
 go_wp2
 go_rounds 5
 rw [Exit.noGoto_ret]
 obtain ⟨m1, m2⟩ := put6 (by repeat (first | (with_reducible exact BR.out) | refine al ?_ (by simp) _) : (X.setCell ⟨w.heap.size, 0, none⟩ (.int .u8 ((s + 1) % 64))).heap[w.heap.size + 1]? = some (.cells #[.int .u8 0, .int .u8 0, .int .u8 0, .int .u16 0, .bool false, .bool false] 34 (0, 0))) (ag HB.out (Nat.le_refl _)) (Nat.le_succ _) (.int .u8 ((s + 1) % 64)) (.int .u8 m) (.int .u8 h) (.int .u16 d) (.bool false) (.bool cy)
 generalize (((((((X.setCell ⟨w.heap.size, 0, none⟩ (.int .u8 ((s + 1) % 64))).setCell ⟨w.heap.size + 1, 0, none⟩ (.int .u8 ((s + 1) % 64))).setCell ⟨w.heap.size + 1, 1, none⟩ (.int .u8 m)).setCell ⟨w.heap.size + 1, 2, none⟩ (.int .u8 h)).setCell ⟨w.heap.size + 1, 3, none⟩ (.int .u16 d)).setCell ⟨w.heap.size + 1, 4, none⟩ (.bool false)).setCell ⟨w.heap.size + 1, 5, none⟩ (.bool cy)) = Y at m1 m2 ⊢
 obtain ⟨u0, u1, u2, u3, u4, u5⟩ := c6 m1
 exact bodyPost_ret (v := .agg #[.int .u8 ((s + 1) % 64), .int .u8 m, .int .u8 h, .int .u16 d, .bool false, .bool cy]) (by simp [results, Try.results46, go_sem, u0, u1, u2, u3, u4, u5]) rfl ⟨rfl, m2⟩
theorem tick_min (a0 a1 a2 a3 : Int) (a4 a5 : Bool) (m h d : Int) (cy : Bool) (hn : aV.f a0 a1 a2 a3 a4 a5 = some (59, m, h, d, false, cy)) (hs : ¬ m = 59) (w : World) :
  Calls Try.prog 46 #[.agg #[.int .u8 a0, .int .u8 a1, .int .u8 a2, .int .u16 a3, .bool a4, .bool a5]] w fun e' w' => e' = .returned (.agg #[.int .u8 0, .int .u8 ((m + 1) % 64), .int .u8 h, .int .u16 d, .bool false, .bool cy]) ∧ Below w.heap.size w w' := by
 have HN := ab.mk hn
 clear hn
 go_enter Try.func46, Try.ntmps46
 go_wp2_with fail
 have BK := ab.mk (ah (aC w (.cells #[.int .u8 a0, .int .u8 a1, .int .u8 a2, .int .u16 a3, .bool a4, .bool a5] 34)) (.cells #[.int .u8 0, .int .u8 0, .int .u8 0, .int .u16 0, .bool false, .bool false] 34))
 have e1 : (w.alloc (.cells #[.int .u8 a0, .int .u8 a1, .int .u8 a2, .int .u16 a3, .bool a4, .bool a5] 34)).heap.size = w.heap.size + 1 := by simp
 have zN := heap_alloc_new (w.alloc (.cells #[.int .u8 a0, .int .u8 a1, .int .u8 a2, .int .u16 a3, .bool a4, .bool a5] 34)) (.cells #[.int .u8 0, .int .u8 0, .int .u8 0, .int .u16 0, .bool false, .bool false] 34)
 rw [e1] at zN
 have BR := ab.mk zN
 have HB := ab.mk (ac (ac (Below.refl w.heap.size w) (.cells #[.int .u8 a0, .int .u8 a1, .int .u8 a2, .int .u16 a3, .bool a4, .bool a5] 34)) (.cells #[.int .u8 0, .int .u8 0, .int .u8 0, .int .u16 0, .bool false, .bool false] 34))
 clear zN e1
 have hz : ((w.alloc (.cells #[.int .u8 a0, .int .u8 a1, .int .u8 a2, .int .u16 a3, .bool a4, .bool a5] 34)).alloc (.cells #[.int .u8 0, .int .u8 0, .int .u8 0, .int .u16 0, .bool false, .bool false] 34)).heap.size = w.heap.size + 2 := by simp
 generalize (w.alloc (.cells #[.int .u8 a0, .int .u8 a1, .int .u8 a2, .int .u16 a3, .bool a4, .bool a5] 34)).alloc (.cells #[.int .u8 0, .int .u8 0, .int .u8 0, .int .u16 0, .bool false, .bool false] 34) = W at *
 obtain ⟨c0, c1, c2, c3, c4, c5⟩ := c6 BK.out
 have fz := fun i => ae BK.out i
 go_step3
 go_wp2_with (first | (go_at_call 66; ((with_reducible refine (aV.calls a0 a1 a2 a3 a4 a5 (59) (m) (h) (d) (false) (cy) _ HN.out).mono ?_)); rintro e' w1 ⟨rfl, hb⟩; have n0 := ab.mk ((hb.block w.heap.size (by rw [hz]; omega)).trans BK.out); have n1 := ab.mk ((hb.block (w.heap.size + 1) (by rw [hz]; omega)).trans BR.out); have n2 := ab.mk (Below.trans HB.out (hb.mono (by rw [hz]; omega))); clear hb BK BR HB c0 c1 c2 c3 c4 c5 fz; obtain ⟨c0, c1, c2, c3, c4, c5⟩ := c6 n0.out; obtain ⟨z0, z1, z2, z3, z4, z5⟩ := c6 n1.out; have fz := fun i => ae n0.out i; have fr := fun i => ae n1.out i))
 obtain ⟨m0, m2⟩ := put6 n0.out n2.out (Nat.le_refl _) (.int .u8 59) (.int .u8 m) (.int .u8 h) (.int .u16 d) (.bool false) (.bool cy)
 have m1 := far6 (g := w.heap.size) n1.out (by omega) (.int .u8 59) (.int .u8 m) (.int .u8 h) (.int .u16 d) (.bool false) (.bool cy)
 generalize ((((((w1.setCell ⟨w.heap.size, 0, none⟩ (.int .u8 59)).setCell ⟨w.heap.size, 1, none⟩ (.int .u8 m)).setCell ⟨w.heap.size, 2, none⟩ (.int .u8 h)).setCell ⟨w.heap.size, 3, none⟩ (.int .u16 d)).setCell ⟨w.heap.size, 4, none⟩ (.bool false)).setCell ⟨w.heap.size, 5, none⟩ (.bool cy)) = X at m0 m1 m2 ⊢
 clear n0 n1 n2 c0 c1 c2 c3 c4 c5 z0 z1 z2 z3 z4 z5 fz fr hz
 have BK := ab.mk m0
 have BR := ab.mk m1
 have HB := ab.mk m2
 clear m0 m1 m2
 obtain ⟨c0, c1, c2, c3, c4, c5⟩ := c6 BK.out
 obtain ⟨z0, z1, z2, z3, z4, z5⟩ := c6 BR.out
 have fz := fun i => ae BK.out i
 have fr := fun i => ae BR.out i
 go_step3
 go_wp2
 go_rounds 5
 rw [Exit.noGoto_ret]
 obtain ⟨m1, m2⟩ := put6 (by repeat (first | (with_reducible exact BR.out) | refine al ?_ (by simp) _) : ((X.setCell ⟨w.heap.size, 0, none⟩ (.int .u8 0)).setCell ⟨w.heap.size, 1, none⟩ (.int .u8 ((m + 1) % 64))).heap[w.heap.size + 1]? = some (.cells #[.int .u8 0, .int .u8 0, .int .u8 0, .int .u16 0, .bool false, .bool false] 34 (0, 0))) (ag (ag HB.out (Nat.le_refl _)) (Nat.le_refl _)) (Nat.le_succ _) (.int .u8 0) (.int .u8 ((m + 1) % 64)) (.int .u8 h) (.int .u16 d) (.bool false) (.bool cy)
 generalize ((((((((X.setCell ⟨w.heap.size, 0, none⟩ (.int .u8 0)).setCell ⟨w.heap.size, 1, none⟩ (.int .u8 ((m + 1) % 64))).setCell ⟨w.heap.size + 1, 0, none⟩ (.int .u8 0)).setCell ⟨w.heap.size + 1, 1, none⟩ (.int .u8 ((m + 1) % 64))).setCell ⟨w.heap.size + 1, 2, none⟩ (.int .u8 h)).setCell ⟨w.heap.size + 1, 3, none⟩ (.int .u16 d)).setCell ⟨w.heap.size + 1, 4, none⟩ (.bool false)).setCell ⟨w.heap.size + 1, 5, none⟩ (.bool cy)) = Y at m1 m2 ⊢
 obtain ⟨u0, u1, u2, u3, u4, u5⟩ := c6 m1
 exact bodyPost_ret (v := .agg #[.int .u8 0, .int .u8 ((m + 1) % 64), .int .u8 h, .int .u16 d, .bool false, .bool cy]) (by simp [results, Try.results46, go_sem, u0, u1, u2, u3, u4, u5]) rfl ⟨rfl, m2⟩
theorem tick_hour (a0 a1 a2 a3 : Int) (a4 a5 : Bool) (h d : Int) (cy : Bool) (hn : aV.f a0 a1 a2 a3 a4 a5 = some (59, 59, h, d, false, cy)) (hs : ¬ h = 23) (w : World) :
  Calls Try.prog 46 #[.agg #[.int .u8 a0, .int .u8 a1, .int .u8 a2, .int .u16 a3, .bool a4, .bool a5]] w fun e' w' => e' = .returned (.agg #[.int .u8 0, .int .u8 0, .int .u8 ((h + 1) % 32), .int .u16 d, .bool false, .bool cy]) ∧ Below w.heap.size w w' := by
 have HN := ab.mk hn
 clear hn
 go_enter Try.func46, Try.ntmps46
 go_wp2_with fail
 have BK := ab.mk (ah (aC w (.cells #[.int .u8 a0, .int .u8 a1, .int .u8 a2, .int .u16 a3, .bool a4, .bool a5] 34)) (.cells #[.int .u8 0, .int .u8 0, .int .u8 0, .int .u16 0, .bool false, .bool false] 34))
 have e1 : (w.alloc (.cells #[.int .u8 a0, .int .u8 a1, .int .u8 a2, .int .u16 a3, .bool a4, .bool a5] 34)).heap.size = w.heap.size + 1 := by simp
 have zN := heap_alloc_new (w.alloc (.cells #[.int .u8 a0, .int .u8 a1, .int .u8 a2, .int .u16 a3, .bool a4, .bool a5] 34)) (.cells #[.int .u8 0, .int .u8 0, .int .u8 0, .int .u16 0, .bool false, .bool false] 34)
 rw [e1] at zN
 have BR := ab.mk zN
 have HB := ab.mk (ac (ac (Below.refl w.heap.size w) (.cells #[.int .u8 a0, .int .u8 a1, .int .u8 a2, .int .u16 a3, .bool a4, .bool a5] 34)) (.cells #[.int .u8 0, .int .u8 0, .int .u8 0, .int .u16 0, .bool false, .bool false] 34))
 clear zN e1
 have hz : ((w.alloc (.cells #[.int .u8 a0, .int .u8 a1, .int .u8 a2, .int .u16 a3, .bool a4, .bool a5] 34)).alloc (.cells #[.int .u8 0, .int .u8 0, .int .u8 0, .int .u16 0, .bool false, .bool false] 34)).heap.size = w.heap.size + 2 := by simp
 generalize (w.alloc (.cells #[.int .u8 a0, .int .u8 a1, .int .u8 a2, .int .u16 a3, .bool a4, .bool a5] 34)).alloc (.cells #[.int .u8 0, .int .u8 0, .int .u8 0, .int .u16 0, .bool false, .bool false] 34) = W at *
 obtain ⟨c0, c1, c2, c3, c4, c5⟩ := c6 BK.out
 have fz := fun i => ae BK.out i
 go_step3
 go_wp2_with (first | (go_at_call 66; ((with_reducible refine (aV.calls a0 a1 a2 a3 a4 a5 (59) (59) (h) (d) (false) (cy) _ HN.out).mono ?_)); rintro e' w1 ⟨rfl, hb⟩; have n0 := ab.mk ((hb.block w.heap.size (by rw [hz]; omega)).trans BK.out); have n1 := ab.mk ((hb.block (w.heap.size + 1) (by rw [hz]; omega)).trans BR.out); have n2 := ab.mk (Below.trans HB.out (hb.mono (by rw [hz]; omega))); clear hb BK BR HB c0 c1 c2 c3 c4 c5 fz; obtain ⟨c0, c1, c2, c3, c4, c5⟩ := c6 n0.out; obtain ⟨z0, z1, z2, z3, z4, z5⟩ := c6 n1.out; have fz := fun i => ae n0.out i; have fr := fun i => ae n1.out i))
 obtain ⟨m0, m2⟩ := put6 n0.out n2.out (Nat.le_refl _) (.int .u8 59) (.int .u8 59) (.int .u8 h) (.int .u16 d) (.bool false) (.bool cy)
 have m1 := far6 (g := w.heap.size) n1.out (by omega) (.int .u8 59) (.int .u8 59) (.int .u8 h) (.int .u16 d) (.bool false) (.bool cy)
 generalize ((((((w1.setCell ⟨w.heap.size, 0, none⟩ (.int .u8 59)).setCell ⟨w.heap.size, 1, none⟩ (.int .u8 59)).setCell ⟨w.heap.size, 2, none⟩ (.int .u8 h)).setCell ⟨w.heap.size, 3, none⟩ (.int .u16 d)).setCell ⟨w.heap.size, 4, none⟩ (.bool false)).setCell ⟨w.heap.size, 5, none⟩ (.bool cy)) = X at m0 m1 m2 ⊢
 clear n0 n1 n2 c0 c1 c2 c3 c4 c5 z0 z1 z2 z3 z4 z5 fz fr hz
 have BK := ab.mk m0
 have BR := ab.mk m1
 have HB := ab.mk m2
 clear m0 m1 m2
 obtain ⟨c0, c1, c2, c3, c4, c5⟩ := c6 BK.out
 obtain ⟨z0, z1, z2, z3, z4, z5⟩ := c6 BR.out
 have fz := fun i => ae BK.out i
 have fr := fun i => ae BR.out i
 go_step3
 go_wp2
 go_rounds 5
 rw [Exit.noGoto_ret]
 obtain ⟨m1, m2⟩ := put6 (by repeat (first | (with_reducible exact BR.out) | refine al ?_ (by simp) _) : (((X.setCell ⟨w.heap.size, 0, none⟩ (.int .u8 0)).setCell ⟨w.heap.size, 1, none⟩ (.int .u8 0)).setCell ⟨w.heap.size, 2, none⟩ (.int .u8 ((h + 1) % 32))).heap[w.heap.size + 1]? = some (.cells #[.int .u8 0, .int .u8 0, .int .u8 0, .int .u16 0, .bool false, .bool false] 34 (0, 0))) (ag (ag (ag HB.out (Nat.le_refl _)) (Nat.le_refl _)) (Nat.le_refl _)) (Nat.le_succ _) (.int .u8 0) (.int .u8 0) (.int .u8 ((h + 1) % 32)) (.int .u16 d) (.bool false) (.bool cy)
 generalize (((((((((X.setCell ⟨w.heap.size, 0, none⟩ (.int .u8 0)).setCell ⟨w.heap.size, 1, none⟩ (.int .u8 0)).setCell ⟨w.heap.size, 2, none⟩ (.int .u8 ((h + 1) % 32))).setCell ⟨w.heap.size + 1, 0, none⟩ (.int .u8 0)).setCell ⟨w.heap.size + 1, 1, none⟩ (.int .u8 0)).setCell ⟨w.heap.size + 1, 2, none⟩ (.int .u8 ((h + 1) % 32))).setCell ⟨w.heap.size + 1, 3, none⟩ (.int .u16 d)).setCell ⟨w.heap.size + 1, 4, none⟩ (.bool false)).setCell ⟨w.heap.size + 1, 5, none⟩ (.bool cy)) = Y at m1 m2 ⊢
 obtain ⟨u0, u1, u2, u3, u4, u5⟩ := c6 m1
 exact bodyPost_ret (v := .agg #[.int .u8 0, .int .u8 0, .int .u8 ((h + 1) % 32), .int .u16 d, .bool false, .bool cy]) (by simp [results, Try.results46, go_sem, u0, u1, u2, u3, u4, u5]) rfl ⟨rfl, m2⟩
theorem tick_day1 (a0 a1 a2 a3 : Int) (a4 a5 : Bool) (d : Int) (hn : aV.f a0 a1 a2 a3 a4 a5 = some (59, 59, 23, d, false, true))  (w : World) :
  Calls Try.prog 46 #[.agg #[.int .u8 a0, .int .u8 a1, .int .u8 a2, .int .u16 a3, .bool a4, .bool a5]] w fun e' w' => e' = .returned (.agg #[.int .u8 0, .int .u8 0, .int .u8 0, .int .u16 (Go.bits .and .u16 (IntKind.u16.wrap (d + 1)) 511), .bool false, .bool true]) ∧ Below w.heap.size w w' := by
 have HN := ab.mk hn
 clear hn
 go_enter Try.func46, Try.ntmps46
 go_wp2_with fail
 have BK := ab.mk (ah (aC w (.cells #[.int .u8 a0, .int .u8 a1, .int .u8 a2, .int .u16 a3, .bool a4, .bool a5] 34)) (.cells #[.int .u8 0, .int .u8 0, .int .u8 0, .int .u16 0, .bool false, .bool false] 34))
 have e1 : (w.alloc (.cells #[.int .u8 a0, .int .u8 a1, .int .u8 a2, .int .u16 a3, .bool a4, .bool a5] 34)).heap.size = w.heap.size + 1 := by simp
 have zN := heap_alloc_new (w.alloc (.cells #[.int .u8 a0, .int .u8 a1, .int .u8 a2, .int .u16 a3, .bool a4, .bool a5] 34)) (.cells #[.int .u8 0, .int .u8 0, .int .u8 0, .int .u16 0, .bool false, .bool false] 34)
 rw [e1] at zN
 have BR := ab.mk zN
 have HB := ab.mk (ac (ac (Below.refl w.heap.size w) (.cells #[.int .u8 a0, .int .u8 a1, .int .u8 a2, .int .u16 a3, .bool a4, .bool a5] 34)) (.cells #[.int .u8 0, .int .u8 0, .int .u8 0, .int .u16 0, .bool false, .bool false] 34))
 clear zN e1
 have hz : ((w.alloc (.cells #[.int .u8 a0, .int .u8 a1, .int .u8 a2, .int .u16 a3, .bool a4, .bool a5] 34)).alloc (.cells #[.int .u8 0, .int .u8 0, .int .u8 0, .int .u16 0, .bool false, .bool false] 34)).heap.size = w.heap.size + 2 := by simp
 generalize (w.alloc (.cells #[.int .u8 a0, .int .u8 a1, .int .u8 a2, .int .u16 a3, .bool a4, .bool a5] 34)).alloc (.cells #[.int .u8 0, .int .u8 0, .int .u8 0, .int .u16 0, .bool false, .bool false] 34) = W at *
 obtain ⟨c0, c1, c2, c3, c4, c5⟩ := c6 BK.out
 have fz := fun i => ae BK.out i
 go_step3
 go_wp2_with (first | (go_at_call 66; ((with_reducible refine (aV.calls a0 a1 a2 a3 a4 a5 (59) (59) (23) (d) (false) (true) _ HN.out).mono ?_)); rintro e' w1 ⟨rfl, hb⟩; have n0 := ab.mk ((hb.block w.heap.size (by rw [hz]; omega)).trans BK.out); have n1 := ab.mk ((hb.block (w.heap.size + 1) (by rw [hz]; omega)).trans BR.out); have n2 := ab.mk (Below.trans HB.out (hb.mono (by rw [hz]; omega))); clear hb BK BR HB c0 c1 c2 c3 c4 c5 fz; obtain ⟨c0, c1, c2, c3, c4, c5⟩ := c6 n0.out; obtain ⟨z0, z1, z2, z3, z4, z5⟩ := c6 n1.out; have fz := fun i => ae n0.out i; have fr := fun i => ae n1.out i))
 obtain ⟨m0, m2⟩ := put6 n0.out n2.out (Nat.le_refl _) (.int .u8 59) (.int .u8 59) (.int .u8 23) (.int .u16 d) (.bool false) (.bool true)
 have m1 := far6 (g := w.heap.size) n1.out (by omega) (.int .u8 59) (.int .u8 59) (.int .u8 23) (.int .u16 d) (.bool false) (.bool true)
 generalize ((((((w1.setCell ⟨w.heap.size, 0, none⟩ (.int .u8 59)).setCell ⟨w.heap.size, 1, none⟩ (.int .u8 59)).setCell ⟨w.heap.size, 2, none⟩ (.int .u8 23)).setCell ⟨w.heap.size, 3, none⟩ (.int .u16 d)).setCell ⟨w.heap.size, 4, none⟩ (.bool false)).setCell ⟨w.heap.size, 5, none⟩ (.bool true)) = X at m0 m1 m2 ⊢
 clear n0 n1 n2 c0 c1 c2 c3 c4 c5 z0 z1 z2 z3 z4 z5 fz fr hz
 have BK := ab.mk m0
 have BR := ab.mk m1
 have HB := ab.mk m2
 clear m0 m1 m2
 obtain ⟨c0, c1, c2, c3, c4, c5⟩ := c6 BK.out
 obtain ⟨z0, z1, z2, z3, z4, z5⟩ := c6 BR.out
 have fz := fun i => ae BK.out i
 have fr := fun i => ae BR.out i
 go_step3
 go_wp2
 go_rounds 5
 rw [Exit.noGoto_ret]
 obtain ⟨m1, m2⟩ := put6 (by repeat (first | (with_reducible exact BR.out) | refine al ?_ (by simp) _) : (((((X.setCell ⟨w.heap.size, 0, none⟩ (.int .u8 0)).setCell ⟨w.heap.size, 1, none⟩ (.int .u8 0)).setCell ⟨w.heap.size, 2, none⟩ (.int .u8 0)).setCell ⟨w.heap.size, 5, none⟩ (.bool true)).setCell ⟨w.heap.size, 3, none⟩ (.int .u16 (Go.bits .and .u16 (IntKind.u16.wrap (d + 1)) 511))).heap[w.heap.size + 1]? = some (.cells #[.int .u8 0, .int .u8 0, .int .u8 0, .int .u16 0, .bool false, .bool false] 34 (0, 0))) (ag (ag (ag (ag (ag HB.out (Nat.le_refl _)) (Nat.le_refl _)) (Nat.le_refl _)) (Nat.le_refl _)) (Nat.le_refl _)) (Nat.le_succ _) (.int .u8 0) (.int .u8 0) (.int .u8 0) (.int .u16 (Go.bits .and .u16 (IntKind.u16.wrap (d + 1)) 511)) (.bool false) (.bool true)
 generalize (((((((((((X.setCell ⟨w.heap.size, 0, none⟩ (.int .u8 0)).setCell ⟨w.heap.size, 1, none⟩ (.int .u8 0)).setCell ⟨w.heap.size, 2, none⟩ (.int .u8 0)).setCell ⟨w.heap.size, 5, none⟩ (.bool true)).setCell ⟨w.heap.size, 3, none⟩ (.int .u16 (Go.bits .and .u16 (IntKind.u16.wrap (d + 1)) 511))).setCell ⟨w.heap.size + 1, 0, none⟩ (.int .u8 0)).setCell ⟨w.heap.size + 1, 1, none⟩ (.int .u8 0)).setCell ⟨w.heap.size + 1, 2, none⟩ (.int .u8 0)).setCell ⟨w.heap.size + 1, 3, none⟩ (.int .u16 (Go.bits .and .u16 (IntKind.u16.wrap (d + 1)) 511))).setCell ⟨w.heap.size + 1, 4, none⟩ (.bool false)).setCell ⟨w.heap.size + 1, 5, none⟩ (.bool true)) = Y at m1 m2 ⊢
 obtain ⟨u0, u1, u2, u3, u4, u5⟩ := c6 m1
 exact bodyPost_ret (v := .agg #[.int .u8 0, .int .u8 0, .int .u8 0, .int .u16 (Go.bits .and .u16 (IntKind.u16.wrap (d + 1)) 511), .bool false, .bool true]) (by simp [results, Try.results46, go_sem, u0, u1, u2, u3, u4, u5]) rfl ⟨rfl, m2⟩
theorem tick_day0 (a0 a1 a2 a3 : Int) (a4 a5 : Bool) (d : Int) (hn : aV.f a0 a1 a2 a3 a4 a5 = some (59, 59, 23, d, false, false))  (w : World) :
  Calls Try.prog 46 #[.agg #[.int .u8 a0, .int .u8 a1, .int .u8 a2, .int .u16 a3, .bool a4, .bool a5]] w fun e' w' => e' = .returned (.agg #[.int .u8 0, .int .u8 0, .int .u8 0, .int .u16 (Go.bits .and .u16 (IntKind.u16.wrap (d + 1)) 511), .bool false, .bool (d == 511)]) ∧ Below w.heap.size w w' := by
 have HN := ab.mk hn
 clear hn
 go_enter Try.func46, Try.ntmps46
 go_wp2_with fail
 have BK := ab.mk (ah (aC w (.cells #[.int .u8 a0, .int .u8 a1, .int .u8 a2, .int .u16 a3, .bool a4, .bool a5] 34)) (.cells #[.int .u8 0, .int .u8 0, .int .u8 0, .int .u16 0, .bool false, .bool false] 34))
 have e1 : (w.alloc (.cells #[.int .u8 a0, .int .u8 a1, .int .u8 a2, .int .u16 a3, .bool a4, .bool a5] 34)).heap.size = w.heap.size + 1 := by simp
 have zN := heap_alloc_new (w.alloc (.cells #[.int .u8 a0, .int .u8 a1, .int .u8 a2, .int .u16 a3, .bool a4, .bool a5] 34)) (.cells #[.int .u8 0, .int .u8 0, .int .u8 0, .int .u16 0, .bool false, .bool false] 34)
 rw [e1] at zN
 have BR := ab.mk zN
 have HB := ab.mk (ac (ac (Below.refl w.heap.size w) (.cells #[.int .u8 a0, .int .u8 a1, .int .u8 a2, .int .u16 a3, .bool a4, .bool a5] 34)) (.cells #[.int .u8 0, .int .u8 0, .int .u8 0, .int .u16 0, .bool false, .bool false] 34))
 clear zN e1
 have hz : ((w.alloc (.cells #[.int .u8 a0, .int .u8 a1, .int .u8 a2, .int .u16 a3, .bool a4, .bool a5] 34)).alloc (.cells #[.int .u8 0, .int .u8 0, .int .u8 0, .int .u16 0, .bool false, .bool false] 34)).heap.size = w.heap.size + 2 := by simp
 generalize (w.alloc (.cells #[.int .u8 a0, .int .u8 a1, .int .u8 a2, .int .u16 a3, .bool a4, .bool a5] 34)).alloc (.cells #[.int .u8 0, .int .u8 0, .int .u8 0, .int .u16 0, .bool false, .bool false] 34) = W at *
 obtain ⟨c0, c1, c2, c3, c4, c5⟩ := c6 BK.out
 have fz := fun i => ae BK.out i
 go_step3
 go_wp2_with (first | (go_at_call 66; ((with_reducible refine (aV.calls a0 a1 a2 a3 a4 a5 (59) (59) (23) (d) (false) (false) _ HN.out).mono ?_)); rintro e' w1 ⟨rfl, hb⟩; have n0 := ab.mk ((hb.block w.heap.size (by rw [hz]; omega)).trans BK.out); have n1 := ab.mk ((hb.block (w.heap.size + 1) (by rw [hz]; omega)).trans BR.out); have n2 := ab.mk (Below.trans HB.out (hb.mono (by rw [hz]; omega))); clear hb BK BR HB c0 c1 c2 c3 c4 c5 fz; obtain ⟨c0, c1, c2, c3, c4, c5⟩ := c6 n0.out; obtain ⟨z0, z1, z2, z3, z4, z5⟩ := c6 n1.out; have fz := fun i => ae n0.out i; have fr := fun i => ae n1.out i))
 obtain ⟨m0, m2⟩ := put6 n0.out n2.out (Nat.le_refl _) (.int .u8 59) (.int .u8 59) (.int .u8 23) (.int .u16 d) (.bool false) (.bool false)
 have m1 := far6 (g := w.heap.size) n1.out (by omega) (.int .u8 59) (.int .u8 59) (.int .u8 23) (.int .u16 d) (.bool false) (.bool false)
 generalize ((((((w1.setCell ⟨w.heap.size, 0, none⟩ (.int .u8 59)).setCell ⟨w.heap.size, 1, none⟩ (.int .u8 59)).setCell ⟨w.heap.size, 2, none⟩ (.int .u8 23)).setCell ⟨w.heap.size, 3, none⟩ (.int .u16 d)).setCell ⟨w.heap.size, 4, none⟩ (.bool false)).setCell ⟨w.heap.size, 5, none⟩ (.bool false)) = X at m0 m1 m2 ⊢
 clear n0 n1 n2 c0 c1 c2 c3 c4 c5 z0 z1 z2 z3 z4 z5 fz fr hz
 have BK := ab.mk m0
 have BR := ab.mk m1
 have HB := ab.mk m2
 clear m0 m1 m2
 obtain ⟨c0, c1, c2, c3, c4, c5⟩ := c6 BK.out
 obtain ⟨z0, z1, z2, z3, z4, z5⟩ := c6 BR.out
 have fz := fun i => ae BK.out i
 have fr := fun i => ae BR.out i
 go_step3
 go_wp2
 go_rounds 5
 rw [Exit.noGoto_ret]
 obtain ⟨m1, m2⟩ := put6 (by repeat (first | (with_reducible exact BR.out) | refine al ?_ (by simp) _) : (((((X.setCell ⟨w.heap.size, 0, none⟩ (.int .u8 0)).setCell ⟨w.heap.size, 1, none⟩ (.int .u8 0)).setCell ⟨w.heap.size, 2, none⟩ (.int .u8 0)).setCell ⟨w.heap.size, 5, none⟩ (.bool (d == 511))).setCell ⟨w.heap.size, 3, none⟩ (.int .u16 (Go.bits .and .u16 (IntKind.u16.wrap (d + 1)) 511))).heap[w.heap.size + 1]? = some (.cells #[.int .u8 0, .int .u8 0, .int .u8 0, .int .u16 0, .bool false, .bool false] 34 (0, 0))) (ag (ag (ag (ag (ag HB.out (Nat.le_refl _)) (Nat.le_refl _)) (Nat.le_refl _)) (Nat.le_refl _)) (Nat.le_refl _)) (Nat.le_succ _) (.int .u8 0) (.int .u8 0) (.int .u8 0) (.int .u16 (Go.bits .and .u16 (IntKind.u16.wrap (d + 1)) 511)) (.bool false) (.bool (d == 511))
 generalize (((((((((((X.setCell ⟨w.heap.size, 0, none⟩ (.int .u8 0)).setCell ⟨w.heap.size, 1, none⟩ (.int .u8 0)).setCell ⟨w.heap.size, 2, none⟩ (.int .u8 0)).setCell ⟨w.heap.size, 5, none⟩ (.bool (d == 511))).setCell ⟨w.heap.size, 3, none⟩ (.int .u16 (Go.bits .and .u16 (IntKind.u16.wrap (d + 1)) 511))).setCell ⟨w.heap.size + 1, 0, none⟩ (.int .u8 0)).setCell ⟨w.heap.size + 1, 1, none⟩ (.int .u8 0)).setCell ⟨w.heap.size + 1, 2, none⟩ (.int .u8 0)).setCell ⟨w.heap.size + 1, 3, none⟩ (.int .u16 (Go.bits .and .u16 (IntKind.u16.wrap (d + 1)) 511))).setCell ⟨w.heap.size + 1, 4, none⟩ (.bool false)).setCell ⟨w.heap.size + 1, 5, none⟩ (.bool (d == 511))) = Y at m1 m2 ⊢
 obtain ⟨u0, u1, u2, u3, u4, u5⟩ := c6 m1
 exact bodyPost_ret (v := .agg #[.int .u8 0, .int .u8 0, .int .u8 0, .int .u16 (Go.bits .and .u16 (IntKind.u16.wrap (d + 1)) 511), .bool false, .bool (d == 511)]) (by simp [results, Try.results46, go_sem, u0, u1, u2, u3, u4, u5]) rfl ⟨rfl, m2⟩
def tickT (s m h d : Int) (ht cy : Bool) : Int × Int × Int × Int × Bool × Bool :=
 if ht = true then (s, m, h, d, true, cy) else
 if ¬ s = 59 then ((s + 1) % 64, m, h, d, false, cy) else
 if ¬ m = 59 then (0, (m + 1) % 64, h, d, false, cy) else
 if ¬ h = 23 then (0, 0, (h + 1) % 32, d, false, cy) else
 (0, 0, 0, Go.bits .and .u16 (IntKind.u16.wrap (d + 1)) 511, false, if cy = true then true else d == 511)
def cj.f (a0_0 a0_1 a0_2 a0_3 : Int) (a0_4 a0_5 : Bool) : Option (Int × Int × Int × Int × Bool × Bool) :=
 (aV.f a0_0 a0_1 a0_2 a0_3 a0_4 a0_5).bind fun t => some (tickT t.1 t.2.1 t.2.2.1 t.2.2.2.1 t.2.2.2.2.1 t.2.2.2.2.2)
theorem cj.calls (a0_0 a0_1 a0_2 a0_3 : Int) (a0_4 a0_5 : Bool) (r1 r2 r3 r4 : Int) (r5 r6 : Bool) (w : World) (h : cj.f a0_0 a0_1 a0_2 a0_3 a0_4 a0_5 = some (r1, r2, r3, r4, r5, r6)) :
  Calls Try.prog 46 #[.agg #[.int .u8 a0_0, .int .u8 a0_1, .int .u8 a0_2, .int .u16 a0_3, .bool a0_4, .bool a0_5]] w fun e w' => e = .returned (.agg #[.int .u8 r1, .int .u8 r2, .int .u8 r3, .int .u16 r4, .bool r5, .bool r6]) ∧ Below w.heap.size w w' := by
 unfold cj.f at h
 obtain ⟨⟨s, m, hh, d, ht, cy⟩, hn, h⟩ := Option.bind_eq_some_iff.mp h
 have h := Option.some.inj h
 dsimp only at h
 unfold tickT at h
 by_cases c0 : ht = true
 ·subst c0
  rw [if_pos rfl] at h
  cases h
  exact tick_halt _ _ _ _ _ _ _ _ _ _ _ hn w
 have c0 : ht = false := by simpa using c0
 subst c0
 rw [if_neg (by simp)] at h
 by_cases c1 : s = 59
 ·subst c1
  rw [if_neg (by simp)] at h
  by_cases c2 : m = 59
  ·subst c2
   rw [if_neg (by simp)] at h
   by_cases c3 : hh = 23
   ·subst c3
    rw [if_neg (by simp)] at h
    cases cy with
    | true => cases h; exact tick_day1 _ _ _ _ _ _ _ hn w
    | false => cases h; exact tick_day0 _ _ _ _ _ _ _ hn w
   ·rw [if_pos c3] at h
    cases h
    exact tick_hour _ _ _ _ _ _ _ _ _ hn c3 w
  ·rw [if_pos c2] at h
   cases h
   exact tick_min _ _ _ _ _ _ _ _ _ _ hn c2 w
 ·rw [if_pos c1] at h
  cases h
  exact tick_sec _ _ _ _ _ _ _ _ _ _ _ hn c1 w
abbrev Ad.p (a : Ad) : Value := .pointer (some ⟨a.b, 0, none⟩)
def Ct.reg (s : Ct) (ad : Int) : Option Int := if s.hdr.ck = true then bZ.f s.mp.k s.mp.o s.mp.l s.mp.h s.mp.r s.mp.md ad else some 0
def Ck.tick (c : Ck) : Ck := match (cj.f c.s c.m c.h c.d c.ht c.cy).getD (0, 0, 0, 0, false, false) with | (s, m, h, d, ht, cy) => ⟨s, m, h, d, ht, cy⟩
theorem Ck.tick_eq (c : Ck) : cj.f c.s c.m c.h c.d c.ht c.cy = some (c.tick.s, c.tick.m, c.tick.h, c.tick.d, c.tick.ht, c.tick.cy) := rfl
theorem bI {w : World} {a : Ad} {s : Ct} (h : ax w a s) :
  Calls Try.prog 32 #[a.p] w fun e w' => e = .returned (.bool false) ∧ w' = w := by
 have c31 := h.c31
 clear h
 go_enter Try.func32, Try.ntmps32
 go_wp2
 go_returns
 exact ⟨rfl, rfl⟩
theorem reg_at {w : World} {a : Ad} {s : Ct} (h : ax w a s) (ad n : Int) (hn : s.reg ad = some n) :
  Calls Try.prog 34 #[a.p, .int .u16 ad] w fun e w' => e = .returned (.int .i64 n) ∧ Below w.heap.size w w' := by
 unfold Ct.reg at hn
 have c24 := h.c24
 cases hck : s.hdr.ck
 case false =>
  rw [hck] at hn c24
  rw [if_neg (by simp)] at hn
  cases hn
  clear h
  go_enter Try.func34, Try.ntmps34
  go_wp2
  go_returns
  exact ⟨rfl, by go_grown⟩
 case true =>
  rw [hck] at hn c24
  rw [if_pos rfl] at hn
  have c0 := h.c0
  have c1 := h.c1
  have c2 := h.c2
  have c3 := h.c3
  have c4 := h.c4
  have c5 := h.c5
  have HN := ab.mk hn
  clear hn h
  go_enter Try.func34, Try.ntmps34
  go_wp2_with fail
  refine (bZ.calls _ _ _ _ _ _ _ _ _ HN.out).mono ?_
  rintro e' w1 ⟨rfl, hb⟩
  go_wp2
  go_returns
  exact ⟨rfl, by go_grown⟩
theorem tick_at {w : World} {a : Ad} {s : Ct} (h : ax w a s) (hck : s.hdr.ck = true) :
  Calls Try.prog 20 #[a.p] w fun e w' => e = .returned (.tuple #[]) ∧ ax w' a { s with lv := s.lv.tick } ∧ Upto a.S w w' := by
 have c31 := h.c31
 have c24 := h.c24
 rw [hck] at c24
 have c6 := h.c6
 have c7 := h.c7
 have c8 := h.c8
 have c9 := h.c9
 have c10 := h.c10
 have c11 := h.c11
 have HH := ab.mk h
 clear h
 go_enter Try.func20, Try.ntmps20
 go_wp2_with fail
 refine (bI HH.out).mono ?_
 rintro e' w1 ⟨rfl, hw⟩
 replace hw := hw.symm
 subst hw
 go_wp2_with fail
 refine (cj.calls _ _ _ _ _ _ _ _ _ _ _ _ _ s.lv.tick_eq).mono ?_
 rintro e' w1 ⟨rfl, hb⟩
 have h1 := HH.out.below hb
 have d6 := h1.c6
 have d7 := h1.c7
 have d8 := h1.c8
 have d9 := h1.c9
 have d10 := h1.c10
 have d11 := h1.c11
 have fz := h1.frozen
 have H1 := ab.mk h1
 have HB := ab.mk hb
 clear h1 hb
 go_wp2
 go_returns
 refine ⟨rfl, HH.out.stored ?_ ?_ rfl rfl⟩
 ·have p := aJ (aJ (aJ (aJ (aJ (aJ H1.out.box 6 (.int .u8 s.lv.tick.s)) 7 (.int .u8 s.lv.tick.m)) 8 (.int .u8 s.lv.tick.h)) 9 (.int .u16 s.lv.tick.d)) 10 (.bool s.lv.tick.ht)) 11 (.bool s.lv.tick.cy)
  rw [cells_lv] at p
  exact p
 ·with_reducible (refine Upto.setB ?_ _ _; refine Upto.setB ?_ _ _; refine Upto.setB ?_ _ _; refine Upto.setB ?_ _ _; refine Upto.setB ?_ _ _; refine Upto.setB ?_ _ _; exact Upto.of_below HB.out)
end Go.Proofs.Ytmjjojbedllmgaa.Hand
namespace Go.Proofs.Ytmjjojbedllmgaa.G
def bA.f (a0 : Bool) (a1 : Int) : Option (Int) := if a0 = true then (some a1) else (some 0)
theorem bA.calls (a0 : Bool) (a1 : Int) (r : Int) (w : World) (h : bA.f a0 a1 = some r) :
  Calls Try.prog 67 #[.bool a0, .int .u8 a1] w fun e w' => e = .returned (.int .u8 r) ∧ aM w w' := by
 have H : (if a0 = true then (some a1) else (some 0)) = some r := h
 clear h
 by_cases c3 : a0 = true
 ·subst c3
  have H1 : (some a1) = some r := by rw [if_pos rfl] at H; exact H
  clear H
  have H := H1
  clear H1
  obtain rfl := Option.some.inj H
  go_enter Try.func67, Try.ntmps67
  go_wp2
  go_ret
  exact ⟨by first | rfl | (simp; done) | (simp [*]; done), by repeat (first | exact aM.refl _ | apply aM.step)⟩
 ·replace c3 := Bool.eq_false_iff.mpr c3
  subst c3
  have H1 : (some 0) = some r := by rw [if_neg (show ¬ (false = true) by decide)] at H; exact H
  clear H
  have H := H1
  clear H1
  obtain rfl := Option.some.inj H
  go_enter Try.func67, Try.ntmps67
  go_wp2
  go_ret
  exact ⟨by first | rfl | (simp; done) | (simp [*]; done), by repeat (first | exact aM.refl _ | apply aM.step)⟩
def aK.f (a0_0 : Int) (a0_1 : Int) (a0_2 : Int) (a0_3 : Int) (a0_4 : Bool) (a0_5 : Bool) (a1 : Int) : Option (Int × Int) := (aV.f a0_0 a0_1 a0_2 a0_3 a0_4 a0_5).bind fun bt112 => (if a1 = 8 then (some (bt112.1, 0)) else (if a1 = 9 then (some (bt112.2.1, 0)) else (if a1 = 10 then (some (bt112.2.2.1, 0)) else (if a1 = 11 then (some ((bt112.2.2.2.1) % 256, 0)) else (if a1 = 12 then ((bA.f bt112.2.2.2.2.1 64).bind fun t118 => ((bA.f bt112.2.2.2.2.2 128).bind fun t119 => (some (Go.bits .or .u8 (Go.bits .or .u8 ((bt112.2.2.2.1 / 256) % 256) t118) t119, 0)))) else (some (0, 7)))))))
theorem aK.calls (a0_0 : Int) (a0_1 : Int) (a0_2 : Int) (a0_3 : Int) (a0_4 : Bool) (a0_5 : Bool) (a1 : Int) (r1 : Int) (r2 : Int) (w : World) (h : aK.f a0_0 a0_1 a0_2 a0_3 a0_4 a0_5 a1 = some (r1, r2)) :
  Calls Try.prog 35 #[.agg #[.int .u8 a0_0, .int .u8 a0_1, .int .u8 a0_2, .int .u16 a0_3, .bool a0_4, .bool a0_5], .int .i64 a1] w fun e w' => e = .returned (.tuple #[.int .u8 r1, .int .i64 r2]) ∧ Below w.heap.size w w' := by
 have hu34 := Try.underlying34
 have HB := ab.mk (Below.refl w.heap.size w)
 have H : ((aV.f a0_0 a0_1 a0_2 a0_3 a0_4 a0_5).bind fun bt112 => (if a1 = 8 then (some (bt112.1, 0)) else (if a1 = 9 then (some (bt112.2.1, 0)) else (if a1 = 10 then (some (bt112.2.2.1, 0)) else (if a1 = 11 then (some ((bt112.2.2.2.1) % 256, 0)) else (if a1 = 12 then ((bA.f bt112.2.2.2.2.1 64).bind fun t118 => ((bA.f bt112.2.2.2.2.2 128).bind fun t119 => (some (Go.bits .or .u8 (Go.bits .or .u8 ((bt112.2.2.2.1 / 256) % 256) t118) t119, 0)))) else (some (0, 7)))))))) = some (r1, r2) := h
 clear h
 replace H := Option.bind_eq_some_iff.mp H
 obtain ⟨⟨t112, t113, t114, t115, t116, t117⟩, A30, H⟩ := H
 replace H : (if a1 = 8 then (some (t112, 0)) else (if a1 = 9 then (some (t113, 0)) else (if a1 = 10 then (some (t114, 0)) else (if a1 = 11 then (some ((t115) % 256, 0)) else (if a1 = 12 then ((bA.f t116 64).bind fun t118 => ((bA.f t117 128).bind fun t119 => (some (Go.bits .or .u8 (Go.bits .or .u8 ((t115 / 256) % 256) t118) t119, 0)))) else (some (0, 7))))))) = some (r1, r2) := H
 have A3 := ab.mk A30
 clear A30
 by_cases c4 : a1 = 8
 case' _ =>
  rw [if_pos c4] at H
  have c4b0 : (a1 == 8) = true := beq_iff_eq.mpr c4
  have c4b1 : (a1 != 8) = false := bne_eq_false_iff_eq.mpr c4
  clear c4
  simp only [Option.some.injEq, Prod.mk.injEq] at H
  obtain ⟨rfl, rfl⟩ := H
 rotate_right
 case' _ =>
  rw [if_neg c4] at H
  have c4b0 : (a1 == 8) = false := beq_eq_false_iff_ne.mpr c4
  have c4b1 : (a1 != 8) = true := bne_iff_ne.mpr c4
  by_cases c9 : a1 = 9
  case' _ =>
   rw [if_pos c9] at H
   have c9b0 : (a1 == 9) = true := beq_iff_eq.mpr c9
   have c9b1 : (a1 != 9) = false := bne_eq_false_iff_eq.mpr c9
   clear c9
   simp only [Option.some.injEq, Prod.mk.injEq] at H
   obtain ⟨rfl, rfl⟩ := H
  rotate_right
  case' _ =>
   rw [if_neg c9] at H
   have c9b0 : (a1 == 9) = false := beq_eq_false_iff_ne.mpr c9
   have c9b1 : (a1 != 9) = true := bne_iff_ne.mpr c9
   by_cases c14 : a1 = 10
   case' _ =>
    rw [if_pos c14] at H
    have c14b0 : (a1 == 10) = true := beq_iff_eq.mpr c14
    have c14b1 : (a1 != 10) = false := bne_eq_false_iff_eq.mpr c14
    clear c14
    simp only [Option.some.injEq, Prod.mk.injEq] at H
    obtain ⟨rfl, rfl⟩ := H
   rotate_right
   case' _ =>
    rw [if_neg c14] at H
    have c14b0 : (a1 == 10) = false := beq_eq_false_iff_ne.mpr c14
    have c14b1 : (a1 != 10) = true := bne_iff_ne.mpr c14
    by_cases c19 : a1 = 11
    case' _ =>
     rw [if_pos c19] at H
     have c19b0 : (a1 == 11) = true := beq_iff_eq.mpr c19
     have c19b1 : (a1 != 11) = false := bne_eq_false_iff_eq.mpr c19
     clear c19
     simp only [Option.some.injEq, Prod.mk.injEq] at H
     obtain ⟨rfl, rfl⟩ := H
    rotate_right
    case' _ =>
     rw [if_neg c19] at H
     have c19b0 : (a1 == 11) = false := beq_eq_false_iff_ne.mpr c19
     have c19b1 : (a1 != 11) = true := bne_iff_ne.mpr c19
     by_cases c24 : a1 = 12
     case' _ =>
      rw [if_pos c24] at H
      have c24b0 : (a1 == 12) = true := beq_iff_eq.mpr c24
      have c24b1 : (a1 != 12) = false := bne_eq_false_iff_eq.mpr c24
      clear c24
      replace H := Option.bind_eq_some_iff.mp H
      obtain ⟨t118, A250, H⟩ := H
      replace H : ((bA.f t117 128).bind fun t119 => (some (Go.bits .or .u8 (Go.bits .or .u8 ((t115 / 256) % 256) t118) t119, 0))) = some (r1, r2) := H
      have A25 := ab.mk A250
      clear A250
      replace H := Option.bind_eq_some_iff.mp H
      obtain ⟨t119, A260, H⟩ := H
      replace H : (some (Go.bits .or .u8 (Go.bits .or .u8 ((t115 / 256) % 256) t118) t119, 0)) = some (r1, r2) := H
      have A26 := ab.mk A260
      clear A260
      simp only [Option.some.injEq, Prod.mk.injEq] at H
      obtain ⟨rfl, rfl⟩ := H
      go_enter Try.func35, Try.ntmps35
      go_wp2_with (first | ((with_reducible refine ar (N := 2) rfl ?_); refine bf ?hg (N := 2) ?hd (cs := #[.int .u8 a0_0, .int .u8 a0_1, .int .u8 a0_2, .int .u16 a0_3, .bool a0_4, .bool a0_5]) (t := 34) ?hr ?_; (case hd => rfl); (case hg => rfl); (case hr => first | (go_simp; done) | (go_simp; rfl)); intro gb111 hg w900 hbox hb; have n0_ := ab.mk (ak (by repeat (first | (with_reducible first | exact HB.out | apply ac | apply ai | apply aj) | exact HB.out)) hb); have n1_ := ab.mk (hbox); have n2_ := ab.mk ((by rw [hg]; exact (aw (by repeat (first | (with_reducible first | exact HB.out | apply ac | apply ai | apply aj) | exact HB.out))) : w.heap.size ≤ gb111)); have n3_ := ab.mk ((by rw [hg]; exact (aw (by repeat (first | (with_reducible first | exact HB.out | apply ac | apply ai | apply aj) | exact HB.out))) : w.heap.size ≤ gb111)); clear HB; have HB := n0_; have BK111 := n1_; have GW111 := n2_; have GE111 := n3_; clear n0_ n1_ n2_ n3_; clear hb hbox hg; have hcz901_0 : w900.cell? ⟨gb111, 0, none⟩ = some (.int .u8 a0_0) := (aa BK111.out 0).trans rfl; have hcz901_1 : w900.cell? ⟨gb111, 1, none⟩ = some (.int .u8 a0_1) := (aa BK111.out 1).trans rfl; have hcz901_2 : w900.cell? ⟨gb111, 2, none⟩ = some (.int .u8 a0_2) := (aa BK111.out 2).trans rfl; have hcz901_3 : w900.cell? ⟨gb111, 3, none⟩ = some (.int .u16 a0_3) := (aa BK111.out 3).trans rfl; have hcz901_4 : w900.cell? ⟨gb111, 4, none⟩ = some (.bool a0_4) := (aa BK111.out 4).trans rfl; have hcz901_5 : w900.cell? ⟨gb111, 5, none⟩ = some (.bool a0_5) := (aa BK111.out 5).trans rfl; have hfz901_0 := ae BK111.out 0; have hfz901_1 := ae BK111.out 1; have hfz901_2 := ae BK111.out 2; have hfz901_3 := ae BK111.out 3; have hfz901_4 := ae BK111.out 4; have hfz901_5 := ae BK111.out 5) | (go_at_call 66; (with_reducible refine (aV.calls _ _ _ _ _ _ _ _ _ _ _ _ _ A3.out).mono ?_); rintro e w902 ⟨rfl, hb⟩; have n0_ := ab.mk (af (g := gb111) (o := .cells #[.int .u8 a0_0, .int .u8 a0_1, .int .u8 a0_2, .int .u16 a0_3, .bool a0_4, .bool a0_5] 34 (0, 0)) (by (with_reducible repeat (first | refine au ?_ _ | refine ap ?_ | refine ah ?_ _)); exact BK111.out) hb); have n1_ := ab.mk (ak (by repeat (first | (with_reducible first | exact HB.out | apply ac | apply ai | apply aj | refine ag ?_ GE111.out) | exact HB.out)) hb); clear BK111; clear HB; have BK111 := n0_; have HB := n1_; clear n0_ n1_; (try clear hb); (try clear hb2); (try clear hk); (try clear hi); have hcz903_0 : w902.cell? ⟨gb111, 0, none⟩ = some (.int .u8 a0_0) := (aa BK111.out 0).trans rfl; have hcz903_1 : w902.cell? ⟨gb111, 1, none⟩ = some (.int .u8 a0_1) := (aa BK111.out 1).trans rfl; have hcz903_2 : w902.cell? ⟨gb111, 2, none⟩ = some (.int .u8 a0_2) := (aa BK111.out 2).trans rfl; have hcz903_3 : w902.cell? ⟨gb111, 3, none⟩ = some (.int .u16 a0_3) := (aa BK111.out 3).trans rfl; have hcz903_4 : w902.cell? ⟨gb111, 4, none⟩ = some (.bool a0_4) := (aa BK111.out 4).trans rfl; have hcz903_5 : w902.cell? ⟨gb111, 5, none⟩ = some (.bool a0_5) := (aa BK111.out 5).trans rfl; have hfz903_0 := ae BK111.out 0; have hfz903_1 := ae BK111.out 1; have hfz903_2 := ae BK111.out 2; have hfz903_3 := ae BK111.out 3; have hfz903_4 := ae BK111.out 4; have hfz903_5 := ae BK111.out 5) | (go_at_call 67; (with_reducible refine (bA.calls _ _ _ _ A25.out).mono ?_); rintro e w' ⟨rfl, ⟨nd, rfl⟩⟩; (try first | exact ⟨rfl, _, World.drewN_drewN _ _ _⟩ | exact ⟨rfl, _, Eq.trans (World.drewN_drewN _ _ _) (congrArg (World.drewN _) (Nat.add_assoc _ _ _))⟩)) | (go_at_call 67; (with_reducible refine (bA.calls _ _ _ _ A26.out).mono ?_); rintro e w' ⟨rfl, ⟨nd, rfl⟩⟩; (try first | exact ⟨rfl, _, World.drewN_drewN _ _ _⟩ | exact ⟨rfl, _, Eq.trans (World.drewN_drewN _ _ _) (congrArg (World.drewN _) (Nat.add_assoc _ _ _))⟩)))
      repeat (go_quiet (first | ((with_reducible refine ar (N := 2) rfl ?_); refine bf ?hg (N := 2) ?hd (cs := #[.int .u8 a0_0, .int .u8 a0_1, .int .u8 a0_2, .int .u16 a0_3, .bool a0_4, .bool a0_5]) (t := 34) ?hr ?_; (case hd => rfl); (case hg => rfl); (case hr => first | (go_simp; done) | (go_simp; rfl)); intro gb111 hg w900 hbox hb; have n0_ := ab.mk (ak (by repeat (first | (with_reducible first | exact HB.out | apply ac | apply ai | apply aj) | exact HB.out)) hb); have n1_ := ab.mk (hbox); have n2_ := ab.mk ((by rw [hg]; exact (aw (by repeat (first | (with_reducible first | exact HB.out | apply ac | apply ai | apply aj) | exact HB.out))) : w.heap.size ≤ gb111)); have n3_ := ab.mk ((by rw [hg]; exact (aw (by repeat (first | (with_reducible first | exact HB.out | apply ac | apply ai | apply aj) | exact HB.out))) : w.heap.size ≤ gb111)); clear HB; have HB := n0_; have BK111 := n1_; have GW111 := n2_; have GE111 := n3_; clear n0_ n1_ n2_ n3_; clear hb hbox hg; have hcz901_0 : w900.cell? ⟨gb111, 0, none⟩ = some (.int .u8 a0_0) := (aa BK111.out 0).trans rfl; have hcz901_1 : w900.cell? ⟨gb111, 1, none⟩ = some (.int .u8 a0_1) := (aa BK111.out 1).trans rfl; have hcz901_2 : w900.cell? ⟨gb111, 2, none⟩ = some (.int .u8 a0_2) := (aa BK111.out 2).trans rfl; have hcz901_3 : w900.cell? ⟨gb111, 3, none⟩ = some (.int .u16 a0_3) := (aa BK111.out 3).trans rfl; have hcz901_4 : w900.cell? ⟨gb111, 4, none⟩ = some (.bool a0_4) := (aa BK111.out 4).trans rfl; have hcz901_5 : w900.cell? ⟨gb111, 5, none⟩ = some (.bool a0_5) := (aa BK111.out 5).trans rfl; have hfz901_0 := ae BK111.out 0; have hfz901_1 := ae BK111.out 1; have hfz901_2 := ae BK111.out 2; have hfz901_3 := ae BK111.out 3; have hfz901_4 := ae BK111.out 4; have hfz901_5 := ae BK111.out 5) | (go_at_call 66; (with_reducible refine (aV.calls _ _ _ _ _ _ _ _ _ _ _ _ _ A3.out).mono ?_); rintro e w902 ⟨rfl, hb⟩; have n0_ := ab.mk (af (g := gb111) (o := .cells #[.int .u8 a0_0, .int .u8 a0_1, .int .u8 a0_2, .int .u16 a0_3, .bool a0_4, .bool a0_5] 34 (0, 0)) (by (with_reducible repeat (first | refine au ?_ _ | refine ap ?_ | refine ah ?_ _)); exact BK111.out) hb); have n1_ := ab.mk (ak (by repeat (first | (with_reducible first | exact HB.out | apply ac | apply ai | apply aj | refine ag ?_ GE111.out) | exact HB.out)) hb); clear BK111; clear HB; have BK111 := n0_; have HB := n1_; clear n0_ n1_; (try clear hb); (try clear hb2); (try clear hk); (try clear hi); have hcz903_0 : w902.cell? ⟨gb111, 0, none⟩ = some (.int .u8 a0_0) := (aa BK111.out 0).trans rfl; have hcz903_1 : w902.cell? ⟨gb111, 1, none⟩ = some (.int .u8 a0_1) := (aa BK111.out 1).trans rfl; have hcz903_2 : w902.cell? ⟨gb111, 2, none⟩ = some (.int .u8 a0_2) := (aa BK111.out 2).trans rfl; have hcz903_3 : w902.cell? ⟨gb111, 3, none⟩ = some (.int .u16 a0_3) := (aa BK111.out 3).trans rfl; have hcz903_4 : w902.cell? ⟨gb111, 4, none⟩ = some (.bool a0_4) := (aa BK111.out 4).trans rfl; have hcz903_5 : w902.cell? ⟨gb111, 5, none⟩ = some (.bool a0_5) := (aa BK111.out 5).trans rfl; have hfz903_0 := ae BK111.out 0; have hfz903_1 := ae BK111.out 1; have hfz903_2 := ae BK111.out 2; have hfz903_3 := ae BK111.out 3; have hfz903_4 := ae BK111.out 4; have hfz903_5 := ae BK111.out 5) | (go_at_call 67; (with_reducible refine (bA.calls _ _ _ _ A25.out).mono ?_); rintro e w' ⟨rfl, ⟨nd, rfl⟩⟩; (try first | exact ⟨rfl, _, World.drewN_drewN _ _ _⟩ | exact ⟨rfl, _, Eq.trans (World.drewN_drewN _ _ _) (congrArg (World.drewN _) (Nat.add_assoc _ _ _))⟩)) | (go_at_call 67; (with_reducible refine (bA.calls _ _ _ _ A26.out).mono ?_); rintro e w' ⟨rfl, ⟨nd, rfl⟩⟩; (try first | exact ⟨rfl, _, World.drewN_drewN _ _ _⟩ | exact ⟨rfl, _, Eq.trans (World.drewN_drewN _ _ _) (congrArg (World.drewN _) (Nat.add_assoc _ _ _))⟩))); try go_wp2_with (first | ((with_reducible refine ar (N := 2) rfl ?_); refine bf ?hg (N := 2) ?hd (cs := #[.int .u8 a0_0, .int .u8 a0_1, .int .u8 a0_2, .int .u16 a0_3, .bool a0_4, .bool a0_5]) (t := 34) ?hr ?_; (case hd => rfl); (case hg => rfl); (case hr => first | (go_simp; done) | (go_simp; rfl)); intro gb111 hg w900 hbox hb; have n0_ := ab.mk (ak (by repeat (first | (with_reducible first | exact HB.out | apply ac | apply ai | apply aj) | exact HB.out)) hb); have n1_ := ab.mk (hbox); have n2_ := ab.mk ((by rw [hg]; exact (aw (by repeat (first | (with_reducible first | exact HB.out | apply ac | apply ai | apply aj) | exact HB.out))) : w.heap.size ≤ gb111)); have n3_ := ab.mk ((by rw [hg]; exact (aw (by repeat (first | (with_reducible first | exact HB.out | apply ac | apply ai | apply aj) | exact HB.out))) : w.heap.size ≤ gb111)); clear HB; have HB := n0_; have BK111 := n1_; have GW111 := n2_; have GE111 := n3_; clear n0_ n1_ n2_ n3_; clear hb hbox hg; have hcz901_0 : w900.cell? ⟨gb111, 0, none⟩ = some (.int .u8 a0_0) := (aa BK111.out 0).trans rfl; have hcz901_1 : w900.cell? ⟨gb111, 1, none⟩ = some (.int .u8 a0_1) := (aa BK111.out 1).trans rfl; have hcz901_2 : w900.cell? ⟨gb111, 2, none⟩ = some (.int .u8 a0_2) := (aa BK111.out 2).trans rfl; have hcz901_3 : w900.cell? ⟨gb111, 3, none⟩ = some (.int .u16 a0_3) := (aa BK111.out 3).trans rfl; have hcz901_4 : w900.cell? ⟨gb111, 4, none⟩ = some (.bool a0_4) := (aa BK111.out 4).trans rfl; have hcz901_5 : w900.cell? ⟨gb111, 5, none⟩ = some (.bool a0_5) := (aa BK111.out 5).trans rfl; have hfz901_0 := ae BK111.out 0; have hfz901_1 := ae BK111.out 1; have hfz901_2 := ae BK111.out 2; have hfz901_3 := ae BK111.out 3; have hfz901_4 := ae BK111.out 4; have hfz901_5 := ae BK111.out 5) | (go_at_call 66; (with_reducible refine (aV.calls _ _ _ _ _ _ _ _ _ _ _ _ _ A3.out).mono ?_); rintro e w902 ⟨rfl, hb⟩; have n0_ := ab.mk (af (g := gb111) (o := .cells #[.int .u8 a0_0, .int .u8 a0_1, .int .u8 a0_2, .int .u16 a0_3, .bool a0_4, .bool a0_5] 34 (0, 0)) (by (with_reducible repeat (first | refine au ?_ _ | refine ap ?_ | refine ah ?_ _)); exact BK111.out) hb); have n1_ := ab.mk (ak (by repeat (first | (with_reducible first | exact HB.out | apply ac | apply ai | apply aj | refine ag ?_ GE111.out) | exact HB.out)) hb); clear BK111; clear HB; have BK111 := n0_; have HB := n1_; clear n0_ n1_; (try clear hb); (try clear hb2); (try clear hk); (try clear hi); have hcz903_0 : w902.cell? ⟨gb111, 0, none⟩ = some (.int .u8 a0_0) := (aa BK111.out 0).trans rfl; have hcz903_1 : w902.cell? ⟨gb111, 1, none⟩ = some (.int .u8 a0_1) := (aa BK111.out 1).trans rfl; have hcz903_2 : w902.cell? ⟨gb111, 2, none⟩ = some (.int .u8 a0_2) := (aa BK111.out 2).trans rfl; have hcz903_3 : w902.cell? ⟨gb111, 3, none⟩ = some (.int .u16 a0_3) := (aa BK111.out 3).trans rfl; have hcz903_4 : w902.cell? ⟨gb111, 4, none⟩ = some (.bool a0_4) := (aa BK111.out 4).trans rfl; have hcz903_5 : w902.cell? ⟨gb111, 5, none⟩ = some (.bool a0_5) := (aa BK111.out 5).trans rfl; have hfz903_0 := ae BK111.out 0; have hfz903_1 := ae BK111.out 1; have hfz903_2 := ae BK111.out 2; have hfz903_3 := ae BK111.out 3; have hfz903_4 := ae BK111.out 4; have hfz903_5 := ae BK111.out 5) | (go_at_call 67; (with_reducible refine (bA.calls _ _ _ _ A25.out).mono ?_); rintro e w' ⟨rfl, ⟨nd, rfl⟩⟩; (try first | exact ⟨rfl, _, World.drewN_drewN _ _ _⟩ | exact ⟨rfl, _, Eq.trans (World.drewN_drewN _ _ _) (congrArg (World.drewN _) (Nat.add_assoc _ _ _))⟩)) | (go_at_call 67; (with_reducible refine (bA.calls _ _ _ _ A26.out).mono ?_); rintro e w' ⟨rfl, ⟨nd, rfl⟩⟩; (try first | exact ⟨rfl, _, World.drewN_drewN _ _ _⟩ | exact ⟨rfl, _, Eq.trans (World.drewN_drewN _ _ _) (congrArg (World.drewN _) (Nat.add_assoc _ _ _))⟩))))
      go_ret2
      exact ⟨by first | rfl | (simp [aE, aG] <;> rfl) | (simp [*, aE, aG] <;> rfl), by repeat (first | (with_reducible first | exact HB.out | apply ac | apply ai | apply aj | refine ag ?_ GE111.out) | exact HB.out)⟩
     rotate_right
     case' _ =>
      rw [if_neg c24] at H
      have c24b0 : (a1 == 12) = false := beq_eq_false_iff_ne.mpr c24
      have c24b1 : (a1 != 12) = true := bne_iff_ne.mpr c24
      simp only [Option.some.injEq, Prod.mk.injEq] at H
      obtain ⟨rfl, rfl⟩ := H
 all_goals
  go_enter Try.func35, Try.ntmps35
  go_wp2_with (first | ((with_reducible refine ar (N := 2) rfl ?_); refine bf ?hg (N := 2) ?hd (cs := #[.int .u8 a0_0, .int .u8 a0_1, .int .u8 a0_2, .int .u16 a0_3, .bool a0_4, .bool a0_5]) (t := 34) ?hr ?_; (case hd => rfl); (case hg => rfl); (case hr => first | (go_simp; done) | (go_simp; rfl)); intro gb111 hg w900 hbox hb; have n0_ := ab.mk (ak (by repeat (first | (with_reducible first | exact HB.out | apply ac | apply ai | apply aj) | exact HB.out)) hb); have n1_ := ab.mk (hbox); have n2_ := ab.mk ((by rw [hg]; exact (aw (by repeat (first | (with_reducible first | exact HB.out | apply ac | apply ai | apply aj) | exact HB.out))) : w.heap.size ≤ gb111)); have n3_ := ab.mk ((by rw [hg]; exact (aw (by repeat (first | (with_reducible first | exact HB.out | apply ac | apply ai | apply aj) | exact HB.out))) : w.heap.size ≤ gb111)); clear HB; have HB := n0_; have BK111 := n1_; have GW111 := n2_; have GE111 := n3_; clear n0_ n1_ n2_ n3_; clear hb hbox hg; have hcz901_0 : w900.cell? ⟨gb111, 0, none⟩ = some (.int .u8 a0_0) := (aa BK111.out 0).trans rfl; have hcz901_1 : w900.cell? ⟨gb111, 1, none⟩ = some (.int .u8 a0_1) := (aa BK111.out 1).trans rfl; have hcz901_2 : w900.cell? ⟨gb111, 2, none⟩ = some (.int .u8 a0_2) := (aa BK111.out 2).trans rfl; have hcz901_3 : w900.cell? ⟨gb111, 3, none⟩ = some (.int .u16 a0_3) := (aa BK111.out 3).trans rfl; have hcz901_4 : w900.cell? ⟨gb111, 4, none⟩ = some (.bool a0_4) := (aa BK111.out 4).trans rfl; have hcz901_5 : w900.cell? ⟨gb111, 5, none⟩ = some (.bool a0_5) := (aa BK111.out 5).trans rfl; have hfz901_0 := ae BK111.out 0; have hfz901_1 := ae BK111.out 1; have hfz901_2 := ae BK111.out 2; have hfz901_3 := ae BK111.out 3; have hfz901_4 := ae BK111.out 4; have hfz901_5 := ae BK111.out 5) | (go_at_call 66; (with_reducible refine (aV.calls _ _ _ _ _ _ _ _ _ _ _ _ _ A3.out).mono ?_); rintro e w902 ⟨rfl, hb⟩; have n0_ := ab.mk (af (g := gb111) (o := .cells #[.int .u8 a0_0, .int .u8 a0_1, .int .u8 a0_2, .int .u16 a0_3, .bool a0_4, .bool a0_5] 34 (0, 0)) (by (with_reducible repeat (first | refine au ?_ _ | refine ap ?_ | refine ah ?_ _)); exact BK111.out) hb); have n1_ := ab.mk (ak (by repeat (first | (with_reducible first | exact HB.out | apply ac | apply ai | apply aj | refine ag ?_ GE111.out) | exact HB.out)) hb); clear BK111; clear HB; have BK111 := n0_; have HB := n1_; clear n0_ n1_; (try clear hb); (try clear hb2); (try clear hk); (try clear hi); have hcz903_0 : w902.cell? ⟨gb111, 0, none⟩ = some (.int .u8 a0_0) := (aa BK111.out 0).trans rfl; have hcz903_1 : w902.cell? ⟨gb111, 1, none⟩ = some (.int .u8 a0_1) := (aa BK111.out 1).trans rfl; have hcz903_2 : w902.cell? ⟨gb111, 2, none⟩ = some (.int .u8 a0_2) := (aa BK111.out 2).trans rfl; have hcz903_3 : w902.cell? ⟨gb111, 3, none⟩ = some (.int .u16 a0_3) := (aa BK111.out 3).trans rfl; have hcz903_4 : w902.cell? ⟨gb111, 4, none⟩ = some (.bool a0_4) := (aa BK111.out 4).trans rfl; have hcz903_5 : w902.cell? ⟨gb111, 5, none⟩ = some (.bool a0_5) := (aa BK111.out 5).trans rfl; have hfz903_0 := ae BK111.out 0; have hfz903_1 := ae BK111.out 1; have hfz903_2 := ae BK111.out 2; have hfz903_3 := ae BK111.out 3; have hfz903_4 := ae BK111.out 4; have hfz903_5 := ae BK111.out 5))
  repeat (go_quiet (first | ((with_reducible refine ar (N := 2) rfl ?_); refine bf ?hg (N := 2) ?hd (cs := #[.int .u8 a0_0, .int .u8 a0_1, .int .u8 a0_2, .int .u16 a0_3, .bool a0_4, .bool a0_5]) (t := 34) ?hr ?_; (case hd => rfl); (case hg => rfl); (case hr => first | (go_simp; done) | (go_simp; rfl)); intro gb111 hg w900 hbox hb; have n0_ := ab.mk (ak (by repeat (first | (with_reducible first | exact HB.out | apply ac | apply ai | apply aj) | exact HB.out)) hb); have n1_ := ab.mk (hbox); have n2_ := ab.mk ((by rw [hg]; exact (aw (by repeat (first | (with_reducible first | exact HB.out | apply ac | apply ai | apply aj) | exact HB.out))) : w.heap.size ≤ gb111)); have n3_ := ab.mk ((by rw [hg]; exact (aw (by repeat (first | (with_reducible first | exact HB.out | apply ac | apply ai | apply aj) | exact HB.out))) : w.heap.size ≤ gb111)); clear HB; have HB := n0_; have BK111 := n1_; have GW111 := n2_; have GE111 := n3_; clear n0_ n1_ n2_ n3_; clear hb hbox hg; have hcz901_0 : w900.cell? ⟨gb111, 0, none⟩ = some (.int .u8 a0_0) := (aa BK111.out 0).trans rfl; have hcz901_1 : w900.cell? ⟨gb111, 1, none⟩ = some (.int .u8 a0_1) := (aa BK111.out 1).trans rfl; have hcz901_2 : w900.cell? ⟨gb111, 2, none⟩ = some (.int .u8 a0_2) := (aa BK111.out 2).trans rfl; have hcz901_3 : w900.cell? ⟨gb111, 3, none⟩ = some (.int .u16 a0_3) := (aa BK111.out 3).trans rfl; have hcz901_4 : w900.cell? ⟨gb111, 4, none⟩ = some (.bool a0_4) := (aa BK111.out 4).trans rfl; have hcz901_5 : w900.cell? ⟨gb111, 5, none⟩ = some (.bool a0_5) := (aa BK111.out 5).trans rfl; have hfz901_0 := ae BK111.out 0; have hfz901_1 := ae BK111.out 1; have hfz901_2 := ae BK111.out 2; have hfz901_3 := ae BK111.out 3; have hfz901_4 := ae BK111.out 4; have hfz901_5 := ae BK111.out 5) | (go_at_call 66; (with_reducible refine (aV.calls _ _ _ _ _ _ _ _ _ _ _ _ _ A3.out).mono ?_); rintro e w902 ⟨rfl, hb⟩; have n0_ := ab.mk (af (g := gb111) (o := .cells #[.int .u8 a0_0, .int .u8 a0_1, .int .u8 a0_2, .int .u16 a0_3, .bool a0_4, .bool a0_5] 34 (0, 0)) (by (with_reducible repeat (first | refine au ?_ _ | refine ap ?_ | refine ah ?_ _)); exact BK111.out) hb); have n1_ := ab.mk (ak (by repeat (first | (with_reducible first | exact HB.out | apply ac | apply ai | apply aj | refine ag ?_ GE111.out) | exact HB.out)) hb); clear BK111; clear HB; have BK111 := n0_; have HB := n1_; clear n0_ n1_; (try clear hb); (try clear hb2); (try clear hk); (try clear hi); have hcz903_0 : w902.cell? ⟨gb111, 0, none⟩ = some (.int .u8 a0_0) := (aa BK111.out 0).trans rfl; have hcz903_1 : w902.cell? ⟨gb111, 1, none⟩ = some (.int .u8 a0_1) := (aa BK111.out 1).trans rfl; have hcz903_2 : w902.cell? ⟨gb111, 2, none⟩ = some (.int .u8 a0_2) := (aa BK111.out 2).trans rfl; have hcz903_3 : w902.cell? ⟨gb111, 3, none⟩ = some (.int .u16 a0_3) := (aa BK111.out 3).trans rfl; have hcz903_4 : w902.cell? ⟨gb111, 4, none⟩ = some (.bool a0_4) := (aa BK111.out 4).trans rfl; have hcz903_5 : w902.cell? ⟨gb111, 5, none⟩ = some (.bool a0_5) := (aa BK111.out 5).trans rfl; have hfz903_0 := ae BK111.out 0; have hfz903_1 := ae BK111.out 1; have hfz903_2 := ae BK111.out 2; have hfz903_3 := ae BK111.out 3; have hfz903_4 := ae BK111.out 4; have hfz903_5 := ae BK111.out 5)); try go_wp2_with (first | ((with_reducible refine ar (N := 2) rfl ?_); refine bf ?hg (N := 2) ?hd (cs := #[.int .u8 a0_0, .int .u8 a0_1, .int .u8 a0_2, .int .u16 a0_3, .bool a0_4, .bool a0_5]) (t := 34) ?hr ?_; (case hd => rfl); (case hg => rfl); (case hr => first | (go_simp; done) | (go_simp; rfl)); intro gb111 hg w900 hbox hb; have n0_ := ab.mk (ak (by repeat (first | (with_reducible first | exact HB.out | apply ac | apply ai | apply aj) | exact HB.out)) hb); have n1_ := ab.mk (hbox); have n2_ := ab.mk ((by rw [hg]; exact (aw (by repeat (first | (with_reducible first | exact HB.out | apply ac | apply ai | apply aj) | exact HB.out))) : w.heap.size ≤ gb111)); have n3_ := ab.mk ((by rw [hg]; exact (aw (by repeat (first | (with_reducible first | exact HB.out | apply ac | apply ai | apply aj) | exact HB.out))) : w.heap.size ≤ gb111)); clear HB; have HB := n0_; have BK111 := n1_; have GW111 := n2_; have GE111 := n3_; clear n0_ n1_ n2_ n3_; clear hb hbox hg; have hcz901_0 : w900.cell? ⟨gb111, 0, none⟩ = some (.int .u8 a0_0) := (aa BK111.out 0).trans rfl; have hcz901_1 : w900.cell? ⟨gb111, 1, none⟩ = some (.int .u8 a0_1) := (aa BK111.out 1).trans rfl; have hcz901_2 : w900.cell? ⟨gb111, 2, none⟩ = some (.int .u8 a0_2) := (aa BK111.out 2).trans rfl; have hcz901_3 : w900.cell? ⟨gb111, 3, none⟩ = some (.int .u16 a0_3) := (aa BK111.out 3).trans rfl; have hcz901_4 : w900.cell? ⟨gb111, 4, none⟩ = some (.bool a0_4) := (aa BK111.out 4).trans rfl; have hcz901_5 : w900.cell? ⟨gb111, 5, none⟩ = some (.bool a0_5) := (aa BK111.out 5).trans rfl; have hfz901_0 := ae BK111.out 0; have hfz901_1 := ae BK111.out 1; have hfz901_2 := ae BK111.out 2; have hfz901_3 := ae BK111.out 3; have hfz901_4 := ae BK111.out 4; have hfz901_5 := ae BK111.out 5) | (go_at_call 66; (with_reducible refine (aV.calls _ _ _ _ _ _ _ _ _ _ _ _ _ A3.out).mono ?_); rintro e w902 ⟨rfl, hb⟩; have n0_ := ab.mk (af (g := gb111) (o := .cells #[.int .u8 a0_0, .int .u8 a0_1, .int .u8 a0_2, .int .u16 a0_3, .bool a0_4, .bool a0_5] 34 (0, 0)) (by (with_reducible repeat (first | refine au ?_ _ | refine ap ?_ | refine ah ?_ _)); exact BK111.out) hb); have n1_ := ab.mk (ak (by repeat (first | (with_reducible first | exact HB.out | apply ac | apply ai | apply aj | refine ag ?_ GE111.out) | exact HB.out)) hb); clear BK111; clear HB; have BK111 := n0_; have HB := n1_; clear n0_ n1_; (try clear hb); (try clear hb2); (try clear hk); (try clear hi); have hcz903_0 : w902.cell? ⟨gb111, 0, none⟩ = some (.int .u8 a0_0) := (aa BK111.out 0).trans rfl; have hcz903_1 : w902.cell? ⟨gb111, 1, none⟩ = some (.int .u8 a0_1) := (aa BK111.out 1).trans rfl; have hcz903_2 : w902.cell? ⟨gb111, 2, none⟩ = some (.int .u8 a0_2) := (aa BK111.out 2).trans rfl; have hcz903_3 : w902.cell? ⟨gb111, 3, none⟩ = some (.int .u16 a0_3) := (aa BK111.out 3).trans rfl; have hcz903_4 : w902.cell? ⟨gb111, 4, none⟩ = some (.bool a0_4) := (aa BK111.out 4).trans rfl; have hcz903_5 : w902.cell? ⟨gb111, 5, none⟩ = some (.bool a0_5) := (aa BK111.out 5).trans rfl; have hfz903_0 := ae BK111.out 0; have hfz903_1 := ae BK111.out 1; have hfz903_2 := ae BK111.out 2; have hfz903_3 := ae BK111.out 3; have hfz903_4 := ae BK111.out 4; have hfz903_5 := ae BK111.out 5)))
  go_ret2
  exact ⟨by first | rfl | (simp [aE, aG] <;> rfl) | (simp [*, aE, aG] <;> rfl), by repeat (first | (with_reducible first | exact HB.out | apply ac | apply ai | apply aj | refine ag ?_ GE111.out) | exact HB.out)⟩
end Go.Proofs.Ytmjjojbedllmgaa.G
namespace Go.Proofs.Ytmjjojbedllmgaa.Hand
def Ct.latch (s : Ct) (v : Int) : Ct := if v = 1 ∧ s.last = 0 then { s with hd := s.lv, last := v } else { s with last := v }
theorem latch_at {w : World} {a : Ad} {s : Ct} (h : ax w a s) (v : Int) :
  Calls Try.prog 42 #[a.p, .int .u8 v] w fun e w' => e = .returned (.tuple #[]) ∧ ax w' a (s.latch v) ∧ Upto a.S w w' := by
 have c6 := h.c6
 have c7 := h.c7
 have c8 := h.c8
 have c9 := h.c9
 have c10 := h.c10
 have c11 := h.c11
 have c12 := h.c12
 have c13 := h.c13
 have c14 := h.c14
 have c15 := h.c15
 have c16 := h.c16
 have c17 := h.c17
 have c18 := h.c18
 have fz := h.frozen
 have HH := ab.mk h
 clear h
 by_cases hv : v = 1
 case neg =>
  have hv' : (v == 1) = false := by simp [hv]
  rw [Ct.latch, if_neg (fun q => hv q.1)]
  go_enter Try.func42, Try.ntmps42
  go_wp2
  go_returns
  refine ⟨rfl, HH.out.stored ?_ ?_ rfl rfl⟩
  ·have p := aJ HH.out.box 18 (.int .u8 v)
   rw [cells_last] at p
   exact p
  ·with_reducible (refine Upto.setB ?_ _ _; exact Upto.refl _ _)
 case pos =>
  subst hv
  by_cases hl : s.last = 0
  case neg =>
   rw [Ct.latch, if_neg (fun q => hl q.2)]
   go_enter Try.func42, Try.ntmps42
   go_wp2
   go_returns
   refine ⟨rfl, HH.out.stored ?_ ?_ rfl rfl⟩
   ·have p := aJ HH.out.box 18 (.int .u8 1)
    rw [cells_last] at p
    exact p
   ·with_reducible (refine Upto.setB ?_ _ _; exact Upto.refl _ _)
  case pos =>
   rw [Ct.latch, if_pos ⟨rfl, hl⟩]
   rw [hl] at c18
   go_enter Try.func42, Try.ntmps42
   go_wp2
   go_returns
   refine ⟨rfl, HH.out.stored ?_ ?_ rfl rfl⟩
   ·have p := (aJ (aJ (aJ (aJ (aJ (aJ HH.out.box 12 (.int .u8 s.lv.s)) 13 (.int .u8 s.lv.m)) 14 (.int .u8 s.lv.h)) 15 (.int .u16 s.lv.d)) 16 (.bool s.lv.ht)) 17 (.bool s.lv.cy))
    rw [cells_hd] at p
    replace p := aJ p 18 (.int .u8 1)
    rw [cells_last] at p
    exact p
   ·with_reducible (refine Upto.setB ?_ _ _; refine Upto.setB ?_ _ _; refine Upto.setB ?_ _ _; refine Upto.setB ?_ _ _; refine Upto.setB ?_ _ _; refine Upto.setB ?_ _ _; refine Upto.setB ?_ _ _; exact Upto.refl _ _)
def Ct.rom (s : Ct) (ad : Int) : Option Int := bB.f s.mp.k s.mp.o s.mp.l s.mp.h s.mp.r s.mp.md ad s.img.length
def Ct.at (s : Ct) (ad : Int) : Int := ramF s.mp.k s.mp.o s.mp.h s.mp.r s.mp.md ad s.ram.length
theorem at_eq (s : Ct) (ad : Int) : bP.f s.mp.k s.mp.o s.mp.l s.mp.h s.mp.r s.mp.md ad s.ram.length = some (s.at ad) := rfl
theorem read_rom {w : World} {a : Ad} {s : Ct} (h : ax w a s) (ad n : Int) (hn : s.rom ad = some n) (h0 : n ≥ 0) (h1 : n < s.img.length) :
  Calls Try.prog 13 #[a.p, .int .u16 ad] w fun e w' => e = .returned (.int .u8 (rd s.img n)) ∧ Below w.heap.size w w' := by
 have HH := ab.mk h
 have HN : ab (bB.f s.mp.k s.mp.o s.mp.l s.mp.h s.mp.r s.mp.md ad s.img.length = some n) := ab.mk hn
 clear h hn
 go_enter Try.func13, Try.ntmps13
 go_wp2_with fail
 refine (bI HH.out).mono ?_
 rintro e' w1 ⟨rfl, hw⟩
 replace hw := hw.symm
 subst hw
 have c0 := HH.out.c0
 have c1 := HH.out.c1
 have c2 := HH.out.c2
 have c3 := HH.out.c3
 have c4 := HH.out.c4
 have c5 := HH.out.c5
 have c29 := HH.out.c29
 have c30 := HH.out.c30
 go_wp2_with fail
 go_region_with ((go_at_call 33; ((with_reducible refine (bB.calls _ _ _ _ _ _ _ _ n _ HN.out).mono ?_)); rintro e' w1 ⟨rfl, hb⟩; have HB : ab (Below w.heap.size w w1) := ab.mk (Below.trans (aj (Below.refl _ _)) hb); clear hb))
 all_goals (
  have h1 := HH.out.below HB.out
  have d29 := h1.c29
  have hcell := h1.image.cell n.toNat (by omega)
  have hx : ((n.toNat : Nat) : Int) = n := by omega
  rw [hx] at hcell
  clear hx h1
  go_wp2
  go_returns
  exact ⟨rfl, by have q := HB.out; go_grown⟩)
theorem read_reg {w : World} {a : Ad} {s : Ct} (h : ax w a s) (ad m v e : Int) (hn : s.rom ad = some (-1)) (hg : s.reg ad = some m) (hm : m > 0) (hv : aK.f s.hd.s s.hd.m s.hd.h s.hd.d s.hd.ht s.hd.cy m = some (v, e)) :
  Calls Try.prog 13 #[a.p, .int .u16 ad] w fun e w' => e = .returned (.int .u8 v) ∧ Below w.heap.size w w' := by
 have HR := ab.mk hv
 clear hv
 have HH := ab.mk h
 have HN : ab (bB.f s.mp.k s.mp.o s.mp.l s.mp.h s.mp.r s.mp.md ad s.img.length = some (-1)) := ab.mk hn
 have HG := ab.mk hg
 clear h hn hg
 go_enter Try.func13, Try.ntmps13
 go_wp2_with fail
 refine (bI HH.out).mono ?_
 rintro e' w1 ⟨rfl, hw⟩
 replace hw := hw.symm
 subst hw
 have c0 := HH.out.c0
 have c1 := HH.out.c1
 have c2 := HH.out.c2
 have c3 := HH.out.c3
 have c4 := HH.out.c4
 have c5 := HH.out.c5
 have c29 := HH.out.c29
 have c30 := HH.out.c30
 go_wp2_with fail
 go_region_with ((go_at_call 33; ((with_reducible refine (bB.calls _ _ _ _ _ _ _ _ (-1) _ HN.out).mono ?_)); rintro e' w1 ⟨rfl, hb⟩; have HB : ab (Below w.heap.size w w1) := ab.mk (Below.trans (aj (Below.refl _ _)) hb); clear hb))
 all_goals (
  have h1 := HH.out.below HB.out
  have HV := ab.mk h1
  clear c0 c1 c2 c3 c4 c5 c29 c30 h1
  go_wp2_with fail
  refine (reg_at HV.out ad _ HG.out).mono ?_
  rintro e' w2 ⟨rfl, hb⟩
  have HB2 : ab (Below w.heap.size w w2) := ab.mk (ak HB.out hb)
  clear hb HB HV
  have h2 := HH.out.below HB2.out
  have H2 := ab.mk h2
  clear h2 HH
  have d12 := H2.out.c12
  have d13 := H2.out.c13
  have d14 := H2.out.c14
  have d15 := H2.out.c15
  have d16 := H2.out.c16
  have d17 := H2.out.c17
  go_wp2_with fail
  refine (aK.calls _ _ _ _ _ _ _ _ _ _ HR.out).mono ?_
  rintro e' w3 ⟨rfl, hb⟩
  have HB3 := ab.mk (ak HB2.out hb)
  clear hb
  go_wp2
  go_returns
  exact ⟨rfl, HB3.out⟩)
theorem read_ram {w : World} {a : Ad} {s : Ct} (h : ax w a s) (ad m n : Int) (hn : s.rom ad = some (-1)) (hg : s.reg ad = some m) (hm : ¬ m > 0) (hat : s.at ad = n) (h0 : n ≥ 0) (h1 : n < s.ram.length) :
  Calls Try.prog 13 #[a.p, .int .u16 ad] w fun e w' => e = .returned (.int .u8 (rd s.ram n)) ∧ Below w.heap.size w w' := by
 have HA : ab (bP.f s.mp.k s.mp.o s.mp.l s.mp.h s.mp.r s.mp.md ad s.ram.length = some n) := ab.mk ((at_eq s ad).trans (congrArg some hat))
 clear hat
 have HH := ab.mk h
 have HN : ab (bB.f s.mp.k s.mp.o s.mp.l s.mp.h s.mp.r s.mp.md ad s.img.length = some (-1)) := ab.mk hn
 have HG := ab.mk hg
 clear h hn hg
 go_enter Try.func13, Try.ntmps13
 go_wp2_with fail
 refine (bI HH.out).mono ?_
 rintro e' w1 ⟨rfl, hw⟩
 replace hw := hw.symm
 subst hw
 have c0 := HH.out.c0
 have c1 := HH.out.c1
 have c2 := HH.out.c2
 have c3 := HH.out.c3
 have c4 := HH.out.c4
 have c5 := HH.out.c5
 have c29 := HH.out.c29
 have c30 := HH.out.c30
 go_wp2_with fail
 go_region_with ((go_at_call 33; ((with_reducible refine (bB.calls _ _ _ _ _ _ _ _ (-1) _ HN.out).mono ?_)); rintro e' w1 ⟨rfl, hb⟩; have HB : ab (Below w.heap.size w w1) := ab.mk (Below.trans (aj (Below.refl _ _)) hb); clear hb))
 all_goals (
  have h1 := HH.out.below HB.out
  have HV := ab.mk h1
  clear c0 c1 c2 c3 c4 c5 c29 c30 h1
  go_wp2_with fail
  refine (reg_at HV.out ad _ HG.out).mono ?_
  rintro e' w2 ⟨rfl, hb⟩
  have HB2 : ab (Below w.heap.size w w2) := ab.mk (ak HB.out hb)
  clear hb HB HV
  have h2 := HH.out.below HB2.out
  have H2 := ab.mk h2
  clear h2 HH
  have d0 := H2.out.c0
  have d1 := H2.out.c1
  have d2 := H2.out.c2
  have d3 := H2.out.c3
  have d4 := H2.out.c4
  have d5 := H2.out.c5
  have d30 := H2.out.c30
  go_wp2_with fail
  go_region_with ((go_at_call 36; ((with_reducible refine (bP.calls _ _ _ _ _ _ _ _ _ _ HA.out).mono ?_)); rintro e' w3 ⟨rfl, hb⟩; have HB3 : ab (Below w.heap.size w w3) := ab.mk (ak HB2.out (Below.trans (aj (Below.refl _ _)) hb)); have H3 : ab (ax w3 a s) := ab.mk (H2.out.below (Below.trans (aj (Below.refl _ _)) hb)); clear hb))
  all_goals (
   have g30 := H3.out.c30
   have hcell := H3.out.row.cell n.toNat (by omega)
   have hx : ((n.toNat : Nat) : Int) = n := by omega
   rw [hx] at hcell
   clear hx
   go_wp2
   go_returns
   exact ⟨rfl, HB3.out⟩))
theorem read_no {w : World} {a : Ad} {s : Ct} (h : ax w a s) (ad m n : Int) (hn : s.rom ad = some (-1)) (hg : s.reg ad = some m) (hm : ¬ m > 0) (hat : s.at ad = n) (h0 : ¬ n ≥ 0) :
  Calls Try.prog 13 #[a.p, .int .u16 ad] w fun e w' => e = .returned (.int .u8 255) ∧ Below w.heap.size w w' := by
 have HA : ab (bP.f s.mp.k s.mp.o s.mp.l s.mp.h s.mp.r s.mp.md ad s.ram.length = some n) := ab.mk ((at_eq s ad).trans (congrArg some hat))
 clear hat
 have HH := ab.mk h
 have HN : ab (bB.f s.mp.k s.mp.o s.mp.l s.mp.h s.mp.r s.mp.md ad s.img.length = some (-1)) := ab.mk hn
 have HG := ab.mk hg
 clear h hn hg
 go_enter Try.func13, Try.ntmps13
 go_wp2_with fail
 refine (bI HH.out).mono ?_
 rintro e' w1 ⟨rfl, hw⟩
 replace hw := hw.symm
 subst hw
 have c0 := HH.out.c0
 have c1 := HH.out.c1
 have c2 := HH.out.c2
 have c3 := HH.out.c3
 have c4 := HH.out.c4
 have c5 := HH.out.c5
 have c29 := HH.out.c29
 have c30 := HH.out.c30
 go_wp2_with fail
 go_region_with ((go_at_call 33; ((with_reducible refine (bB.calls _ _ _ _ _ _ _ _ (-1) _ HN.out).mono ?_)); rintro e' w1 ⟨rfl, hb⟩; have HB : ab (Below w.heap.size w w1) := ab.mk (Below.trans (aj (Below.refl _ _)) hb); clear hb))
 all_goals (
  have h1 := HH.out.below HB.out
  have HV := ab.mk h1
  clear c0 c1 c2 c3 c4 c5 c29 c30 h1
  go_wp2_with fail
  refine (reg_at HV.out ad _ HG.out).mono ?_
  rintro e' w2 ⟨rfl, hb⟩
  have HB2 : ab (Below w.heap.size w w2) := ab.mk (ak HB.out hb)
  clear hb HB HV
  have h2 := HH.out.below HB2.out
  have H2 := ab.mk h2
  clear h2 HH
  have d0 := H2.out.c0
  have d1 := H2.out.c1
  have d2 := H2.out.c2
  have d3 := H2.out.c3
  have d4 := H2.out.c4
  have d5 := H2.out.c5
  have d30 := H2.out.c30
  go_wp2_with fail
  go_region_with ((go_at_call 36; ((with_reducible refine (bP.calls _ _ _ _ _ _ _ _ _ _ HA.out).mono ?_)); rintro e' w3 ⟨rfl, hb⟩; have HB3 : ab (Below w.heap.size w w3) := ab.mk (ak HB2.out (Below.trans (aj (Below.refl _ _)) hb)); have H3 : ab (ax w3 a s) := ab.mk (H2.out.below (Below.trans (aj (Below.refl _ _)) hb)); clear hb))
  all_goals (
   go_wp2
   go_returns
   exact ⟨rfl, HB3.out⟩))
theorem read_nil (ad : Int) (w : World) :
  Calls Try.prog 13 #[.pointer none, .int .u16 ad] w fun e w' => e = .returned (.int .u8 255) ∧ Below w.heap.size w w' := by
 go_enter Try.func13, Try.ntmps13
 go_wp2
 go_returns
 exact ⟨rfl, by go_grown⟩
theorem blk_at1 (w : World) (A B : Obj) : ((w.alloc A).alloc B).heap[w.heap.size + 1]? = some B := by
 have z := heap_alloc_new (w.alloc A) B
 have e : (w.alloc A).heap.size = w.heap.size + 1 := by simp
 rwa [e] at z
theorem wr_first (k : Int) (o : Bool) (l h r : Int) (md : Bool) (a v k' : Int) (o' : Bool) (l' h' r' : Int) (md' : Bool)  (ha : ¬ a ≥ 32768) (hw : ∀ W : World, Calls Try.prog 98 #[.agg #[], .agg #[.int .i64 1, .bool o, .int .u8 l, .int .u8 h, .int .u8 r, .bool md], .int .i64 (IntKind.i64.wrap (a / 4096)), .int .u8 v] W fun e w' => e = .returned (.agg #[.int .i64 k', .bool o', .int .u8 l', .int .u8 h', .int .u8 r', .bool md']) ∧ Below W.heap.size W w') (w : World) :
    Calls Try.prog 41 #[.agg #[.int .i64 1, .bool o, .int .u8 l, .int .u8 h, .int .u8 r, .bool md], .int .u16 a, .int .u8 v] w fun e' w' => e' = .returned (.agg #[.int .i64 k', .bool o', .int .u8 l', .int .u8 h', .int .u8 r', .bool md']) ∧ Below w.heap.size w w' := by
  have HW := ab.mk hw
  clear hw
  go_enter Try.func41, Try.ntmps41
  go_wp2
  have bk := ah (aC w (.cells #[.int .i64 1, .bool o, .int .u8 l, .int .u8 h, .int .u8 r, .bool md] 32)) (.cells #[.int .i64 0, .bool false, .int .u8 0, .int .u8 0, .int .u8 0, .bool false] 32)
  have br := blk_at1 w (.cells #[.int .i64 1, .bool o, .int .u8 l, .int .u8 h, .int .u8 r, .bool md] 32) (.cells #[.int .i64 0, .bool false, .int .u8 0, .int .u8 0, .int .u8 0, .bool false] 32)
  have hB := ac (ac (Below.refl w.heap.size w) (.cells #[.int .i64 1, .bool o, .int .u8 l, .int .u8 h, .int .u8 r, .bool md] 32)) (.cells #[.int .i64 0, .bool false, .int .u8 0, .int .u8 0, .int .u8 0, .bool false] 32)
  generalize (w.alloc (.cells #[.int .i64 1, .bool o, .int .u8 l, .int .u8 h, .int .u8 r, .bool md] 32)).alloc (.cells #[.int .i64 0, .bool false, .int .u8 0, .int .u8 0, .int .u8 0, .bool false] 32) = W at bk br hB ⊢
  have BK := ab.mk bk
  have BR := ab.mk br
  have HB := ab.mk hB
  clear bk br hB
  obtain ⟨c0, c1, c2, c3, c4, c5⟩ := c6 BK.out
  obtain ⟨z0, z1, z2, z3, z4, z5⟩ := c6 BR.out
  have fr := fun i => ae BR.out i
  go_region_held3 (fun w' => w'.cell? ⟨w.heap.size, 0, none⟩ = some (.int .i64 1) ∧ w'.cell? ⟨w.heap.size, 1, none⟩ = some (.bool o) ∧ w'.cell? ⟨w.heap.size, 2, none⟩ = some (.int .u8 l) ∧ w'.cell? ⟨w.heap.size, 3, none⟩ = some (.int .u8 h) ∧ w'.cell? ⟨w.heap.size, 4, none⟩ = some (.int .u8 r) ∧ w'.cell? ⟨w.heap.size, 5, none⟩ = some (.bool md)) (go_keep)
    (first | (go_at_call 68; ((with_reducible refine (of1 _).mono ?_)); rintro e' w2 ⟨rfl, rfl⟩)
           | (go_at_call 98; ((with_reducible refine (HW.out _).mono ?_)); rintro e' w2 ⟨rfl, hb⟩; have n0 := ab.mk (af (ap BK.out) hb); have m0 := ab.mk (af (ap BR.out) hb); have n1 := ab.mk (ak (aj HB.out) hb); clear hb; obtain ⟨d0, d1, d2, d3, d4, d5⟩ := c6 n0.out; obtain ⟨y0, y1, y2, y3, y4, y5⟩ := c6 m0.out; have fy := fun i => ae m0.out i))
  rename_i hHeld
  clear hHeld
  go_wp2
  obtain ⟨q1, q2⟩ := put6 m0.out n1.out (Nat.le_succ _) (.int .i64 k') (.bool o') (.int .u8 l') (.int .u8 h') (.int .u8 r') (.bool md')
  generalize ((((((w2.setCell ⟨w.heap.size + 1, 0, none⟩ (.int .i64 k')).setCell ⟨w.heap.size + 1, 1, none⟩ (.bool o')).setCell ⟨w.heap.size + 1, 2, none⟩ (.int .u8 l')).setCell ⟨w.heap.size + 1, 3, none⟩ (.int .u8 h')).setCell ⟨w.heap.size + 1, 4, none⟩ (.int .u8 r')).setCell ⟨w.heap.size + 1, 5, none⟩ (.bool md')) = Y at q1 q2 ⊢
  obtain ⟨u0, u1, u2, u3, u4, u5⟩ := c6 q1
  exact bodyPost_ret (v := .agg #[.int .i64 k', .bool o', .int .u8 l', .int .u8 h', .int .u8 r', .bool md']) (by simp [results, Try.results41, go_sem, u0, u1, u2, u3, u4, u5]) rfl ⟨rfl, q2⟩
theorem wr_third (k : Int) (o : Bool) (l h r : Int) (md : Bool) (a v k' : Int) (o' : Bool) (l' h' r' : Int) (md' : Bool)  (ha : ¬ a ≥ 32768) (hw : ∀ W : World, Calls Try.prog 104 #[.agg #[], .agg #[.int .i64 3, .bool o, .int .u8 l, .int .u8 h, .int .u8 r, .bool md], .int .i64 (IntKind.i64.wrap (a / 4096)), .int .u8 v] W fun e w' => e = .returned (.agg #[.int .i64 k', .bool o', .int .u8 l', .int .u8 h', .int .u8 r', .bool md']) ∧ Below W.heap.size W w') (w : World) :
    Calls Try.prog 41 #[.agg #[.int .i64 3, .bool o, .int .u8 l, .int .u8 h, .int .u8 r, .bool md], .int .u16 a, .int .u8 v] w fun e' w' => e' = .returned (.agg #[.int .i64 k', .bool o', .int .u8 l', .int .u8 h', .int .u8 r', .bool md']) ∧ Below w.heap.size w w' := by
  have HW := ab.mk hw
  clear hw
  go_enter Try.func41, Try.ntmps41
  go_wp2
  have bk := ah (aC w (.cells #[.int .i64 3, .bool o, .int .u8 l, .int .u8 h, .int .u8 r, .bool md] 32)) (.cells #[.int .i64 0, .bool false, .int .u8 0, .int .u8 0, .int .u8 0, .bool false] 32)
  have br := blk_at1 w (.cells #[.int .i64 3, .bool o, .int .u8 l, .int .u8 h, .int .u8 r, .bool md] 32) (.cells #[.int .i64 0, .bool false, .int .u8 0, .int .u8 0, .int .u8 0, .bool false] 32)
  have hB := ac (ac (Below.refl w.heap.size w) (.cells #[.int .i64 3, .bool o, .int .u8 l, .int .u8 h, .int .u8 r, .bool md] 32)) (.cells #[.int .i64 0, .bool false, .int .u8 0, .int .u8 0, .int .u8 0, .bool false] 32)
  generalize (w.alloc (.cells #[.int .i64 3, .bool o, .int .u8 l, .int .u8 h, .int .u8 r, .bool md] 32)).alloc (.cells #[.int .i64 0, .bool false, .int .u8 0, .int .u8 0, .int .u8 0, .bool false] 32) = W at bk br hB ⊢
  have BK := ab.mk bk
  have BR := ab.mk br
  have HB := ab.mk hB
  clear bk br hB
  obtain ⟨c0, c1, c2, c3, c4, c5⟩ := c6 BK.out
  obtain ⟨z0, z1, z2, z3, z4, z5⟩ := c6 BR.out
  have fr := fun i => ae BR.out i
  go_region_held3 (fun w' => w'.cell? ⟨w.heap.size, 0, none⟩ = some (.int .i64 3) ∧ w'.cell? ⟨w.heap.size, 1, none⟩ = some (.bool o) ∧ w'.cell? ⟨w.heap.size, 2, none⟩ = some (.int .u8 l) ∧ w'.cell? ⟨w.heap.size, 3, none⟩ = some (.int .u8 h) ∧ w'.cell? ⟨w.heap.size, 4, none⟩ = some (.int .u8 r) ∧ w'.cell? ⟨w.heap.size, 5, none⟩ = some (.bool md)) (go_keep)
    (first | (go_at_call 68; ((with_reducible refine (of3 _).mono ?_)); rintro e' w2 ⟨rfl, rfl⟩)
           | (go_at_call 104; ((with_reducible refine (HW.out _).mono ?_)); rintro e' w2 ⟨rfl, hb⟩; have n0 := ab.mk (af (ap BK.out) hb); have m0 := ab.mk (af (ap BR.out) hb); have n1 := ab.mk (ak (aj HB.out) hb); clear hb; obtain ⟨d0, d1, d2, d3, d4, d5⟩ := c6 n0.out; obtain ⟨y0, y1, y2, y3, y4, y5⟩ := c6 m0.out; have fy := fun i => ae m0.out i))
  rename_i hHeld
  clear hHeld
  go_wp2
  obtain ⟨q1, q2⟩ := put6 m0.out n1.out (Nat.le_succ _) (.int .i64 k') (.bool o') (.int .u8 l') (.int .u8 h') (.int .u8 r') (.bool md')
  generalize ((((((w2.setCell ⟨w.heap.size + 1, 0, none⟩ (.int .i64 k')).setCell ⟨w.heap.size + 1, 1, none⟩ (.bool o')).setCell ⟨w.heap.size + 1, 2, none⟩ (.int .u8 l')).setCell ⟨w.heap.size + 1, 3, none⟩ (.int .u8 h')).setCell ⟨w.heap.size + 1, 4, none⟩ (.int .u8 r')).setCell ⟨w.heap.size + 1, 5, none⟩ (.bool md')) = Y at q1 q2 ⊢
  obtain ⟨u0, u1, u2, u3, u4, u5⟩ := c6 q1
  exact bodyPost_ret (v := .agg #[.int .i64 k', .bool o', .int .u8 l', .int .u8 h', .int .u8 r', .bool md']) (by simp [results, Try.results41, go_sem, u0, u1, u2, u3, u4, u5]) rfl ⟨rfl, q2⟩
theorem wr_fifth (k : Int) (o : Bool) (l h r : Int) (md : Bool) (a v k' : Int) (o' : Bool) (l' h' r' : Int) (md' : Bool)  (ha : ¬ a ≥ 32768) (hw : ∀ W : World, Calls Try.prog 108 #[.agg #[], .agg #[.int .i64 5, .bool o, .int .u8 l, .int .u8 h, .int .u8 r, .bool md], .int .i64 (IntKind.i64.wrap (a / 4096)), .int .u8 v] W fun e w' => e = .returned (.agg #[.int .i64 k', .bool o', .int .u8 l', .int .u8 h', .int .u8 r', .bool md']) ∧ Below W.heap.size W w') (w : World) :
    Calls Try.prog 41 #[.agg #[.int .i64 5, .bool o, .int .u8 l, .int .u8 h, .int .u8 r, .bool md], .int .u16 a, .int .u8 v] w fun e' w' => e' = .returned (.agg #[.int .i64 k', .bool o', .int .u8 l', .int .u8 h', .int .u8 r', .bool md']) ∧ Below w.heap.size w w' := by
  have HW := ab.mk hw
  clear hw
  go_enter Try.func41, Try.ntmps41
  go_wp2
  have bk := ah (aC w (.cells #[.int .i64 5, .bool o, .int .u8 l, .int .u8 h, .int .u8 r, .bool md] 32)) (.cells #[.int .i64 0, .bool false, .int .u8 0, .int .u8 0, .int .u8 0, .bool false] 32)
  have br := blk_at1 w (.cells #[.int .i64 5, .bool o, .int .u8 l, .int .u8 h, .int .u8 r, .bool md] 32) (.cells #[.int .i64 0, .bool false, .int .u8 0, .int .u8 0, .int .u8 0, .bool false] 32)
  have hB := ac (ac (Below.refl w.heap.size w) (.cells #[.int .i64 5, .bool o, .int .u8 l, .int .u8 h, .int .u8 r, .bool md] 32)) (.cells #[.int .i64 0, .bool false, .int .u8 0, .int .u8 0, .int .u8 0, .bool false] 32)
  generalize (w.alloc (.cells #[.int .i64 5, .bool o, .int .u8 l, .int .u8 h, .int .u8 r, .bool md] 32)).alloc (.cells #[.int .i64 0, .bool false, .int .u8 0, .int .u8 0, .int .u8 0, .bool false] 32) = W at bk br hB ⊢
  have BK := ab.mk bk
  have BR := ab.mk br
  have HB := ab.mk hB
  clear bk br hB
  obtain ⟨c0, c1, c2, c3, c4, c5⟩ := c6 BK.out
  obtain ⟨z0, z1, z2, z3, z4, z5⟩ := c6 BR.out
  have fr := fun i => ae BR.out i
  go_region_held3 (fun w' => w'.cell? ⟨w.heap.size, 0, none⟩ = some (.int .i64 5) ∧ w'.cell? ⟨w.heap.size, 1, none⟩ = some (.bool o) ∧ w'.cell? ⟨w.heap.size, 2, none⟩ = some (.int .u8 l) ∧ w'.cell? ⟨w.heap.size, 3, none⟩ = some (.int .u8 h) ∧ w'.cell? ⟨w.heap.size, 4, none⟩ = some (.int .u8 r) ∧ w'.cell? ⟨w.heap.size, 5, none⟩ = some (.bool md)) (go_keep)
    (first | (go_at_call 68; ((with_reducible refine (of5 _).mono ?_)); rintro e' w2 ⟨rfl, rfl⟩)
           | (go_at_call 108; ((with_reducible refine (HW.out _).mono ?_)); rintro e' w2 ⟨rfl, hb⟩; have n0 := ab.mk (af (ap BK.out) hb); have m0 := ab.mk (af (ap BR.out) hb); have n1 := ab.mk (ak (aj HB.out) hb); clear hb; obtain ⟨d0, d1, d2, d3, d4, d5⟩ := c6 n0.out; obtain ⟨y0, y1, y2, y3, y4, y5⟩ := c6 m0.out; have fy := fun i => ae m0.out i))
  rename_i hHeld
  clear hHeld
  go_wp2
  obtain ⟨q1, q2⟩ := put6 m0.out n1.out (Nat.le_succ _) (.int .i64 k') (.bool o') (.int .u8 l') (.int .u8 h') (.int .u8 r') (.bool md')
  generalize ((((((w2.setCell ⟨w.heap.size + 1, 0, none⟩ (.int .i64 k')).setCell ⟨w.heap.size + 1, 1, none⟩ (.bool o')).setCell ⟨w.heap.size + 1, 2, none⟩ (.int .u8 l')).setCell ⟨w.heap.size + 1, 3, none⟩ (.int .u8 h')).setCell ⟨w.heap.size + 1, 4, none⟩ (.int .u8 r')).setCell ⟨w.heap.size + 1, 5, none⟩ (.bool md')) = Y at q1 q2 ⊢
  obtain ⟨u0, u1, u2, u3, u4, u5⟩ := c6 q1
  exact bodyPost_ret (v := .agg #[.int .i64 k', .bool o', .int .u8 l', .int .u8 h', .int .u8 r', .bool md']) (by simp [results, Try.results41, go_sem, u0, u1, u2, u3, u4, u5]) rfl ⟨rfl, q2⟩
theorem wr_plain (k : Int) (o : Bool) (l h r : Int) (md : Bool) (a v k' : Int) (o' : Bool) (l' h' r' : Int) (md' : Bool) (h1 : ¬ k = 1) (h3 : ¬ k = 3) (h5 : ¬ k = 5) (ha : ¬ a ≥ 32768) (hw : ∀ W : World, Calls Try.prog 112 #[.agg #[], .agg #[.int .i64 k, .bool o, .int .u8 l, .int .u8 h, .int .u8 r, .bool md], .int .i64 (IntKind.i64.wrap (a / 4096)), .int .u8 v] W fun e w' => e = .returned (.agg #[.int .i64 k', .bool o', .int .u8 l', .int .u8 h', .int .u8 r', .bool md']) ∧ Below W.heap.size W w') (w : World) :
    Calls Try.prog 41 #[.agg #[.int .i64 k, .bool o, .int .u8 l, .int .u8 h, .int .u8 r, .bool md], .int .u16 a, .int .u8 v] w fun e' w' => e' = .returned (.agg #[.int .i64 k', .bool o', .int .u8 l', .int .u8 h', .int .u8 r', .bool md']) ∧ Below w.heap.size w w' := by
  have HW := ab.mk hw
  clear hw
  go_enter Try.func41, Try.ntmps41
  go_wp2
  have bk := ah (aC w (.cells #[.int .i64 k, .bool o, .int .u8 l, .int .u8 h, .int .u8 r, .bool md] 32)) (.cells #[.int .i64 0, .bool false, .int .u8 0, .int .u8 0, .int .u8 0, .bool false] 32)
  have br := blk_at1 w (.cells #[.int .i64 k, .bool o, .int .u8 l, .int .u8 h, .int .u8 r, .bool md] 32) (.cells #[.int .i64 0, .bool false, .int .u8 0, .int .u8 0, .int .u8 0, .bool false] 32)
  have hB := ac (ac (Below.refl w.heap.size w) (.cells #[.int .i64 k, .bool o, .int .u8 l, .int .u8 h, .int .u8 r, .bool md] 32)) (.cells #[.int .i64 0, .bool false, .int .u8 0, .int .u8 0, .int .u8 0, .bool false] 32)
  generalize (w.alloc (.cells #[.int .i64 k, .bool o, .int .u8 l, .int .u8 h, .int .u8 r, .bool md] 32)).alloc (.cells #[.int .i64 0, .bool false, .int .u8 0, .int .u8 0, .int .u8 0, .bool false] 32) = W at bk br hB ⊢
  have BK := ab.mk bk
  have BR := ab.mk br
  have HB := ab.mk hB
  clear bk br hB
  obtain ⟨c0, c1, c2, c3, c4, c5⟩ := c6 BK.out
  obtain ⟨z0, z1, z2, z3, z4, z5⟩ := c6 BR.out
  have fr := fun i => ae BR.out i
  go_region_held3 (fun w' => w'.cell? ⟨w.heap.size, 0, none⟩ = some (.int .i64 k) ∧ w'.cell? ⟨w.heap.size, 1, none⟩ = some (.bool o) ∧ w'.cell? ⟨w.heap.size, 2, none⟩ = some (.int .u8 l) ∧ w'.cell? ⟨w.heap.size, 3, none⟩ = some (.int .u8 h) ∧ w'.cell? ⟨w.heap.size, 4, none⟩ = some (.int .u8 r) ∧ w'.cell? ⟨w.heap.size, 5, none⟩ = some (.bool md)) (go_keep)
    (first | (go_at_call 68; ((with_reducible refine (of0 k h1 h3 h5 _).mono ?_)); rintro e' w2 ⟨rfl, rfl⟩)
           | (go_at_call 112; ((with_reducible refine (HW.out _).mono ?_)); rintro e' w2 ⟨rfl, hb⟩; have n0 := ab.mk (af (ap BK.out) hb); have m0 := ab.mk (af (ap BR.out) hb); have n1 := ab.mk (ak (aj HB.out) hb); clear hb; obtain ⟨d0, d1, d2, d3, d4, d5⟩ := c6 n0.out; obtain ⟨y0, y1, y2, y3, y4, y5⟩ := c6 m0.out; have fy := fun i => ae m0.out i))
  rename_i hHeld
  clear hHeld
  go_wp2
  obtain ⟨q1, q2⟩ := put6 m0.out n1.out (Nat.le_succ _) (.int .i64 k') (.bool o') (.int .u8 l') (.int .u8 h') (.int .u8 r') (.bool md')
  generalize ((((((w2.setCell ⟨w.heap.size + 1, 0, none⟩ (.int .i64 k')).setCell ⟨w.heap.size + 1, 1, none⟩ (.bool o')).setCell ⟨w.heap.size + 1, 2, none⟩ (.int .u8 l')).setCell ⟨w.heap.size + 1, 3, none⟩ (.int .u8 h')).setCell ⟨w.heap.size + 1, 4, none⟩ (.int .u8 r')).setCell ⟨w.heap.size + 1, 5, none⟩ (.bool md')) = Y at q1 q2 ⊢
  obtain ⟨u0, u1, u2, u3, u4, u5⟩ := c6 q1
  exact bodyPost_ret (v := .agg #[.int .i64 k', .bool o', .int .u8 l', .int .u8 h', .int .u8 r', .bool md']) (by simp [results, Try.results41, go_sem, u0, u1, u2, u3, u4, u5]) rfl ⟨rfl, q2⟩
theorem wr_far (k : Int) (o : Bool) (l h r : Int) (md : Bool) (a v : Int) (ha : a ≥ 32768) (w : World) :
  Calls Try.prog 41 #[.agg #[.int .i64 k, .bool o, .int .u8 l, .int .u8 h, .int .u8 r, .bool md], .int .u16 a, .int .u8 v] w fun e' w' => e' = .returned (.agg #[.int .i64 k, .bool o, .int .u8 l, .int .u8 h, .int .u8 r, .bool md]) ∧ Below w.heap.size w w' := by
 go_enter Try.func41, Try.ntmps41
 go_wp2
 go_returns
 exact ⟨rfl, by go_grown⟩
def writeF (k : Int) (o : Bool) (l h r : Int) (md : Bool) (a v : Int) : Int × Bool × Int × Int × Int × Bool :=
 if a ≥ 32768 then (k, o, l, h, r, md) else
 if k = 1 then (if wrap64 (Int.tdiv (IntKind.i64.wrap (a / 4096)) 2) = 0 then (k, ((Go.bits .and .u8 v 15) == 10), l, h, r, md) else if wrap64 (Int.tdiv (IntKind.i64.wrap (a / 4096)) 2) = 1 then (k, o, (Go.bits .and .u8 v 31), h, r, md) else if wrap64 (Int.tdiv (IntKind.i64.wrap (a / 4096)) 2) = 2 then (k, o, l, (Go.bits .and .u8 v 3), r, md) else if wrap64 (Int.tdiv (IntKind.i64.wrap (a / 4096)) 2) = 3 then (k, o, l, h, r, ((Go.bits .and .u8 v 1) == 1)) else (k, o, l, h, r, md)) else
 if k = 3 then (if wrap64 (Int.tdiv (IntKind.i64.wrap (a / 4096)) 2) = 0 then (k, ((Go.bits .and .u8 v 15) == 10), l, h, r, md) else if wrap64 (Int.tdiv (IntKind.i64.wrap (a / 4096)) 2) = 1 then (k, o, (Go.bits .and .u8 v 127), h, r, md) else if wrap64 (Int.tdiv (IntKind.i64.wrap (a / 4096)) 2) = 2 then (k, o, l, h, (Go.bits .and .u8 v 15), md) else (k, o, l, h, r, md)) else
 if k = 5 then (if IntKind.i64.wrap (a / 4096) = 0 then (k, (v == 10), l, h, r, md) else if IntKind.i64.wrap (a / 4096) = 1 then (k, (v == 10), l, h, r, md) else if IntKind.i64.wrap (a / 4096) = 2 then (k, o, v, h, r, md) else if IntKind.i64.wrap (a / 4096) = 3 then (k, o, l, (Go.bits .and .u8 v 1), r, md) else if IntKind.i64.wrap (a / 4096) = 4 then (k, o, l, h, (Go.bits .and .u8 v 15), md) else if IntKind.i64.wrap (a / 4096) = 5 then (k, o, l, h, (Go.bits .and .u8 v 15), md) else (k, o, l, h, r, md)) else
 (k, o, l, h, r, md)
def cw.f (a0_0 : Int) (a0_1 : Bool) (a0_2 a0_3 a0_4 : Int) (a0_5 : Bool) (a1 a2 : Int) : Option (Int × Bool × Int × Int × Int × Bool) := some (writeF a0_0 a0_1 a0_2 a0_3 a0_4 a0_5 a1 a2)
theorem cw.calls (a0_0 : Int) (a0_1 : Bool) (a0_2 a0_3 a0_4 : Int) (a0_5 : Bool) (a1 a2 : Int) (r1 : Int) (r2 : Bool) (r3 r4 r5 : Int) (r6 : Bool) (w : World) (hf : cw.f a0_0 a0_1 a0_2 a0_3 a0_4 a0_5 a1 a2 = some (r1, r2, r3, r4, r5, r6)) :
  Calls Try.prog 41 #[.agg #[.int .i64 a0_0, .bool a0_1, .int .u8 a0_2, .int .u8 a0_3, .int .u8 a0_4, .bool a0_5], .int .u16 a1, .int .u8 a2] w fun e w' => e = .returned (.agg #[.int .i64 r1, .bool r2, .int .u8 r3, .int .u8 r4, .int .u8 r5, .bool r6]) ∧ Below w.heap.size w w' := by
 replace hf := Option.some.inj hf
 unfold writeF at hf
 by_cases hA : a1 ≥ 32768
 ·rw [if_pos hA] at hf
  cases hf
  exact wr_far _ _ _ _ _ _ _ _ hA w
 rw [if_neg hA] at hf
 by_cases k1 : a0_0 = 1
 ·subst k1
  rw [if_pos rfl] at hf
  by_cases h0 : wrap64 (Int.tdiv (IntKind.i64.wrap (a1 / 4096)) 2) = 0
  ·rw [if_pos h0] at hf
   cases hf
   exact wr_first 0 _ _ _ _ _ _ _ _ _ _ _ _ _ hA (fun W => write_first0 1 _ _ _ _ _ _ _ h0 W) w
  rw [if_neg h0] at hf
  by_cases h1 : wrap64 (Int.tdiv (IntKind.i64.wrap (a1 / 4096)) 2) = 1
  ·rw [if_pos h1] at hf
   cases hf
   exact wr_first 0 _ _ _ _ _ _ _ _ _ _ _ _ _ hA (fun W => write_first1 1 _ _ _ _ _ _ _ h1 W) w
  rw [if_neg h1] at hf
  by_cases h2 : wrap64 (Int.tdiv (IntKind.i64.wrap (a1 / 4096)) 2) = 2
  ·rw [if_pos h2] at hf
   cases hf
   exact wr_first 0 _ _ _ _ _ _ _ _ _ _ _ _ _ hA (fun W => write_first2 1 _ _ _ _ _ _ _ h2 W) w
  rw [if_neg h2] at hf
  by_cases h3 : wrap64 (Int.tdiv (IntKind.i64.wrap (a1 / 4096)) 2) = 3
  ·rw [if_pos h3] at hf
   cases hf
   exact wr_first 0 _ _ _ _ _ _ _ _ _ _ _ _ _ hA (fun W => write_first3 1 _ _ _ _ _ _ _ h3 W) w
  rw [if_neg h3] at hf
  cases hf
  exact wr_first 0 _ _ _ _ _ _ _ _ _ _ _ _ _ hA (fun W => write_first_no 1 _ _ _ _ _ _ _ h0 h1 h2 h3 W) w
 rw [if_neg k1] at hf
 by_cases k3 : a0_0 = 3
 ·subst k3
  rw [if_pos rfl] at hf
  by_cases h0 : wrap64 (Int.tdiv (IntKind.i64.wrap (a1 / 4096)) 2) = 0
  ·rw [if_pos h0] at hf
   cases hf
   exact wr_third 0 _ _ _ _ _ _ _ _ _ _ _ _ _ hA (fun W => write_third0 3 _ _ _ _ _ _ _ h0 W) w
  rw [if_neg h0] at hf
  by_cases h1 : wrap64 (Int.tdiv (IntKind.i64.wrap (a1 / 4096)) 2) = 1
  ·rw [if_pos h1] at hf
   cases hf
   exact wr_third 0 _ _ _ _ _ _ _ _ _ _ _ _ _ hA (fun W => write_third1 3 _ _ _ _ _ _ _ h1 W) w
  rw [if_neg h1] at hf
  by_cases h2 : wrap64 (Int.tdiv (IntKind.i64.wrap (a1 / 4096)) 2) = 2
  ·rw [if_pos h2] at hf
   cases hf
   exact wr_third 0 _ _ _ _ _ _ _ _ _ _ _ _ _ hA (fun W => write_third2 3 _ _ _ _ _ _ _ h2 W) w
  rw [if_neg h2] at hf
  cases hf
  exact wr_third 0 _ _ _ _ _ _ _ _ _ _ _ _ _ hA (fun W => write_third_no 3 _ _ _ _ _ _ _ h0 h1 h2 W) w
 rw [if_neg k3] at hf
 by_cases k5 : a0_0 = 5
 ·subst k5
  rw [if_pos rfl] at hf
  by_cases h0 : IntKind.i64.wrap (a1 / 4096) = 0
  ·rw [if_pos h0] at hf
   cases hf
   exact wr_fifth 0 _ _ _ _ _ _ _ _ _ _ _ _ _ hA (fun W => write_fifth0 5 _ _ _ _ _ _ _ h0 W) w
  rw [if_neg h0] at hf
  by_cases h1 : IntKind.i64.wrap (a1 / 4096) = 1
  ·rw [if_pos h1] at hf
   cases hf
   exact wr_fifth 0 _ _ _ _ _ _ _ _ _ _ _ _ _ hA (fun W => write_fifth1 5 _ _ _ _ _ _ _ h1 W) w
  rw [if_neg h1] at hf
  by_cases h2 : IntKind.i64.wrap (a1 / 4096) = 2
  ·rw [if_pos h2] at hf
   cases hf
   exact wr_fifth 0 _ _ _ _ _ _ _ _ _ _ _ _ _ hA (fun W => write_fifth2 5 _ _ _ _ _ _ _ h2 W) w
  rw [if_neg h2] at hf
  by_cases h3 : IntKind.i64.wrap (a1 / 4096) = 3
  ·rw [if_pos h3] at hf
   cases hf
   exact wr_fifth 0 _ _ _ _ _ _ _ _ _ _ _ _ _ hA (fun W => write_fifth3 5 _ _ _ _ _ _ _ h3 W) w
  rw [if_neg h3] at hf
  by_cases h4 : IntKind.i64.wrap (a1 / 4096) = 4
  ·rw [if_pos h4] at hf
   cases hf
   exact wr_fifth 0 _ _ _ _ _ _ _ _ _ _ _ _ _ hA (fun W => write_fifth4 5 _ _ _ _ _ _ _ h4 W) w
  rw [if_neg h4] at hf
  by_cases h5 : IntKind.i64.wrap (a1 / 4096) = 5
  ·rw [if_pos h5] at hf
   cases hf
   exact wr_fifth 0 _ _ _ _ _ _ _ _ _ _ _ _ _ hA (fun W => write_fifth5 5 _ _ _ _ _ _ _ h5 W) w
  rw [if_neg h5] at hf
  cases hf
  exact wr_fifth 0 _ _ _ _ _ _ _ _ _ _ _ _ _ hA (fun W => write_fifth_no 5 _ _ _ _ _ _ _ h0 h1 h2 h3 h4 h5 W) w
 rw [if_neg k5] at hf
 cases hf
 exact wr_plain _ _ _ _ _ _ _ _ _ _ _ _ _ _ k1 k3 k5 hA (fun W => write_plain _ _ _ _ _ _ _ _ W) w
end Go.Proofs.Ytmjjojbedllmgaa.Hand
namespace Go.Proofs.Ytmjjojbedllmgaa.G
def bi.f (a0_0 : Int) (a0_1 : Int) (a0_2 : Int) (a0_3 : Int) (a0_4 : Bool) (a0_5 : Bool) : Option (Int × Int × Int × Int × Bool × Bool) := some (Int.tmod a0_0 64, Int.tmod a0_1 64, Int.tmod a0_2 32, Int.tmod a0_3 512, a0_4, a0_5)
theorem bi.calls (a0_0 : Int) (a0_1 : Int) (a0_2 : Int) (a0_3 : Int) (a0_4 : Bool) (a0_5 : Bool) (r1 : Int) (r2 : Int) (r3 : Int) (r4 : Int) (r5 : Bool) (r6 : Bool) (w : World) (h : bi.f a0_0 a0_1 a0_2 a0_3 a0_4 a0_5 = some (r1, r2, r3, r4, r5, r6)) :
  Calls Try.prog 72 #[.agg #[.int .u8 a0_0, .int .u8 a0_1, .int .u8 a0_2, .int .u16 a0_3, .bool a0_4, .bool a0_5]] w fun e w' => e = .returned (.agg #[.int .u8 r1, .int .u8 r2, .int .u8 r3, .int .u16 r4, .bool r5, .bool r6]) ∧ Below w.heap.size w w' := by
 have hu34 := Try.underlying34
 have HB := ab.mk (Below.refl w.heap.size w)
 have H : (some (Int.tmod a0_0 64, Int.tmod a0_1 64, Int.tmod a0_2 32, Int.tmod a0_3 512, a0_4, a0_5)) = some (r1, r2, r3, r4, r5, r6) := h
 clear h
 simp only [Option.some.injEq, Prod.mk.injEq] at H
 obtain ⟨rfl, rfl, rfl, rfl, rfl, rfl⟩ := H
 go_enter Try.func72, Try.ntmps72
 go_wp2_with (first | ((with_reducible refine ar (N := 1) rfl ?_); refine bf ?hg (N := 1) ?hd (cs := #[.int .u8 a0_0, .int .u8 a0_1, .int .u8 a0_2, .int .u16 a0_3, .bool a0_4, .bool a0_5]) (t := 34) ?hr ?_; (case hd => rfl); (case hg => rfl); (case hr => first | (go_simp; done) | (go_simp; rfl)); intro gb238 hg w2 hbox hb; have n0_ := ab.mk (ak (by repeat (first | (with_reducible first | exact HB.out | apply ac | apply ai | apply aj) | exact HB.out)) hb); have n1_ := ab.mk (hbox); have n2_ := ab.mk ((by rw [hg]; exact (aw (by repeat (first | (with_reducible first | exact HB.out | apply ac | apply ai | apply aj) | exact HB.out))) : w.heap.size ≤ gb238)); have n3_ := ab.mk ((by rw [hg]; exact (aw (by repeat (first | (with_reducible first | exact HB.out | apply ac | apply ai | apply aj) | exact HB.out))) : w.heap.size ≤ gb238)); clear HB; have HB := n0_; have BK238 := n1_; have GW238 := n2_; have GE238 := n3_; clear n0_ n1_ n2_ n3_; clear hb hbox hg) | ((with_reducible refine ar (N := 2) rfl ?_); refine bf ?hg (N := 2) ?hd (cs := #[.int .u8 0, .int .u8 0, .int .u8 0, .int .u16 0, .bool false, .bool false]) (t := 34) ?hr ?_; (case hd => rfl); (case hg => rfl); (case hr => first | (go_simp; done) | (go_simp; rfl)); intro gb239 hg w3 hbox hb; have n0_ := ab.mk (af (g := gb238) (o := .cells #[.int .u8 a0_0, .int .u8 a0_1, .int .u8 a0_2, .int .u16 a0_3, .bool a0_4, .bool a0_5] 34 (0, 0)) (by (with_reducible repeat (first | refine au ?_ _ | refine ap ?_ | refine ah ?_ _)); exact BK238.out) hb); have n1_ := ab.mk (ak (by repeat (first | (with_reducible first | exact HB.out | apply ac | apply ai | apply aj | refine ag ?_ GE238.out) | exact HB.out)) hb); have n2_ := ab.mk (hbox); have n3_ := ab.mk ((by rw [hg]; exact (aw (by repeat (first | (with_reducible first | exact HB.out | apply ac | apply ai | apply aj | refine ag ?_ GE238.out) | exact HB.out))) : w.heap.size ≤ gb239)); have n4_ := ab.mk ((by rw [hg]; exact (aw (by repeat (first | (with_reducible first | exact HB.out | apply ac | apply ai | apply aj | refine ag ?_ GE238.out) | exact HB.out))) : w.heap.size ≤ gb239)); have n5_ := ab.mk ((by rw [hg]; exact Nat.ne_of_lt (aZ (g := gb238) (o := .cells #[.int .u8 a0_0, .int .u8 a0_1, .int .u8 a0_2, .int .u16 a0_3, .bool a0_4, .bool a0_5] 34 (0, 0)) (by (with_reducible repeat (first | refine au ?_ _ | refine ap ?_ | refine ah ?_ _)); exact BK238.out)) : gb238 ≠ gb239)); have n6_ := ab.mk ((by rw [hg]; exact Nat.ne_of_gt (aZ (g := gb238) (o := .cells #[.int .u8 a0_0, .int .u8 a0_1, .int .u8 a0_2, .int .u16 a0_3, .bool a0_4, .bool a0_5] 34 (0, 0)) (by (with_reducible repeat (first | refine au ?_ _ | refine ap ?_ | refine ah ?_ _)); exact BK238.out)) : gb239 ≠ gb238)); clear BK238; clear HB; have BK238 := n0_; have HB := n1_; have BK239 := n2_; have GW239 := n3_; have GE239 := n4_; have NB238_239 := n5_; have NB239_238 := n6_; clear n0_ n1_ n2_ n3_ n4_ n5_ n6_; clear hb hbox hg; have hnb4 := NB238_239.out; have hnc4 := NB239_238.out; have hcz5_0 : w3.cell? ⟨gb238, 0, none⟩ = some (.int .u8 a0_0) := (aa BK238.out 0).trans rfl; have hcz5_1 : w3.cell? ⟨gb238, 1, none⟩ = some (.int .u8 a0_1) := (aa BK238.out 1).trans rfl; have hcz5_2 : w3.cell? ⟨gb238, 2, none⟩ = some (.int .u8 a0_2) := (aa BK238.out 2).trans rfl; have hcz5_3 : w3.cell? ⟨gb238, 3, none⟩ = some (.int .u16 a0_3) := (aa BK238.out 3).trans rfl; have hcz5_4 : w3.cell? ⟨gb238, 4, none⟩ = some (.bool a0_4) := (aa BK238.out 4).trans rfl; have hcz5_5 : w3.cell? ⟨gb238, 5, none⟩ = some (.bool a0_5) := (aa BK238.out 5).trans rfl; have hfz5_0 := ae BK238.out 0; have hfz5_1 := ae BK238.out 1; have hfz5_2 := ae BK238.out 2; have hfz5_3 := ae BK238.out 3; have hfz5_4 := ae BK238.out 4; have hfz5_5 := ae BK238.out 5; have hcz6_0 : w3.cell? ⟨gb239, 0, none⟩ = some (.int .u8 0) := (aa BK239.out 0).trans rfl; have hcz6_1 : w3.cell? ⟨gb239, 1, none⟩ = some (.int .u8 0) := (aa BK239.out 1).trans rfl; have hcz6_2 : w3.cell? ⟨gb239, 2, none⟩ = some (.int .u8 0) := (aa BK239.out 2).trans rfl; have hcz6_3 : w3.cell? ⟨gb239, 3, none⟩ = some (.int .u16 0) := (aa BK239.out 3).trans rfl; have hcz6_4 : w3.cell? ⟨gb239, 4, none⟩ = some (.bool false) := (aa BK239.out 4).trans rfl; have hcz6_5 : w3.cell? ⟨gb239, 5, none⟩ = some (.bool false) := (aa BK239.out 5).trans rfl; have hfz6_0 := ae BK239.out 0; have hfz6_1 := ae BK239.out 1; have hfz6_2 := ae BK239.out 2; have hfz6_3 := ae BK239.out 3; have hfz6_4 := ae BK239.out 4; have hfz6_5 := ae BK239.out 5))
 refine bodyPost_ret (results_cell_row rfl _ _ gb239 34 #[.int .u8 (Int.tmod a0_0 64), .int .u8 (Int.tmod a0_1 64), .int .u8 (Int.tmod a0_2 32), .int .u16 (Int.tmod a0_3 512), .bool a0_4, .bool a0_5] (0, 0) _ rfl (by (with_reducible repeat (first | refine au ?_ _ | refine ap ?_ | refine ah ?_ _)); refine an (cs := #[.int .u8 (Int.tmod a0_0 64), .int .u8 (Int.tmod a0_1 64), .int .u8 (Int.tmod a0_2 32), .int .u16 (Int.tmod a0_3 512), .bool a0_4, .bool false]) ?_ 5 _ rfl; (with_reducible repeat (first | refine au ?_ _ | refine ap ?_ | refine ah ?_ _)); refine an (cs := #[.int .u8 (Int.tmod a0_0 64), .int .u8 (Int.tmod a0_1 64), .int .u8 (Int.tmod a0_2 32), .int .u16 (Int.tmod a0_3 512), .bool false, .bool false]) ?_ 4 _ rfl; (with_reducible repeat (first | refine au ?_ _ | refine ap ?_ | refine ah ?_ _)); refine an (cs := #[.int .u8 (Int.tmod a0_0 64), .int .u8 (Int.tmod a0_1 64), .int .u8 (Int.tmod a0_2 32), .int .u16 0, .bool false, .bool false]) ?_ 3 _ rfl; (with_reducible repeat (first | refine au ?_ _ | refine ap ?_ | refine ah ?_ _)); refine an (cs := #[.int .u8 (Int.tmod a0_0 64), .int .u8 (Int.tmod a0_1 64), .int .u8 0, .int .u16 0, .bool false, .bool false]) ?_ 2 _ rfl; (with_reducible repeat (first | refine au ?_ _ | refine ap ?_ | refine ah ?_ _)); refine an (cs := #[.int .u8 (Int.tmod a0_0 64), .int .u8 0, .int .u8 0, .int .u16 0, .bool false, .bool false]) ?_ 1 _ rfl; (with_reducible repeat (first | refine au ?_ _ | refine ap ?_ | refine ah ?_ _)); refine an (cs := #[.int .u8 0, .int .u8 0, .int .u8 0, .int .u16 0, .bool false, .bool false]) ?_ 0 _ rfl; (with_reducible repeat (first | refine au ?_ _ | refine ap ?_ | refine ah ?_ _)); exact BK239.out) Try.underlying34 rfl (by kernel_rfl)) rfl ?_
 exact ⟨by first | rfl | (simp [aE, aG] <;> rfl) | (simp [*, aE, aG] <;> rfl), by repeat (first | (with_reducible first | exact HB.out | apply ac | apply ai | apply aj | refine ag ?_ GE238.out | refine ag ?_ GE239.out) | exact HB.out)⟩
end Go.Proofs.Ytmjjojbedllmgaa.G
namespace Go.Proofs.Ytmjjojbedllmgaa.Hand
def av.f (a0_0 : Int) (a0_1 : Int) (a0_2 : Int) (a0_3 : Int) (a0_4 : Bool) (a0_5 : Bool) (a1 : Int) (a2 : Int) : Option (Int × Int × Int × Int × Bool × Bool × Int) := (aV.f a0_0 a0_1 a0_2 a0_3 a0_4 a0_5).bind fun bt340 => (if a1 = 8 then ((aV.f a2 bt340.2.1 bt340.2.2.1 bt340.2.2.2.1 bt340.2.2.2.2.1 bt340.2.2.2.2.2).bind fun bt346 => (some (bt346.1, bt346.2.1, bt346.2.2.1, bt346.2.2.2.1, bt346.2.2.2.2.1, bt346.2.2.2.2.2, 0))) else (if a1 = 9 then ((aV.f bt340.1 a2 bt340.2.2.1 bt340.2.2.2.1 bt340.2.2.2.2.1 bt340.2.2.2.2.2).bind fun bt352 => (some (bt352.1, bt352.2.1, bt352.2.2.1, bt352.2.2.2.1, bt352.2.2.2.2.1, bt352.2.2.2.2.2, 0))) else (if a1 = 10 then ((aV.f bt340.1 bt340.2.1 a2 bt340.2.2.2.1 bt340.2.2.2.2.1 bt340.2.2.2.2.2).bind fun bt358 => (some (bt358.1, bt358.2.1, bt358.2.2.1, bt358.2.2.2.1, bt358.2.2.2.2.1, bt358.2.2.2.2.2, 0))) else (if a1 = 11 then ((aV.f bt340.1 bt340.2.1 bt340.2.2.1 (Go.bits .or .u16 (Go.bits .and .u16 bt340.2.2.2.1 256) (IntKind.u16.wrap (a2))) bt340.2.2.2.2.1 bt340.2.2.2.2.2).bind fun bt364 => (some (bt364.1, bt364.2.1, bt364.2.2.1, bt364.2.2.2.1, bt364.2.2.2.2.1, bt364.2.2.2.2.2, 0))) else (if a1 = 12 then ((aV.f bt340.1 bt340.2.1 bt340.2.2.1 (Go.bits .or .u16 (Go.bits .and .u16 bt340.2.2.2.1 255) (IntKind.u16.wrap ((IntKind.u16.wrap (Go.bits .and .u8 a2 1)) * 256))) ((Go.bits .and .u8 a2 64) != 0) ((Go.bits .and .u8 a2 128) != 0)).bind fun bt370 => (some (bt370.1, bt370.2.1, bt370.2.2.1, bt370.2.2.2.1, bt370.2.2.2.2.1, bt370.2.2.2.2.2, 0))) else (some (0, 0, 0, 0, false, false, 7)))))))
theorem av.calls (a0_0 a0_1 a0_2 a0_3 : Int) (a0_4 a0_5 : Bool) (a1 a2 : Int) (r1 r2 r3 r4 : Int) (r5 r6 : Bool) (r7 : Int) (w : World) (h : av.f a0_0 a0_1 a0_2 a0_3 a0_4 a0_5 a1 a2 = some (r1, r2, r3, r4, r5, r6, r7)) :
  Calls Try.prog 43 #[.agg #[.int .u8 a0_0, .int .u8 a0_1, .int .u8 a0_2, .int .u16 a0_3, .bool a0_4, .bool a0_5], .int .i64 a1, .int .u8 a2] w fun e w' => e = .returned (.tuple #[.agg #[.int .u8 r1, .int .u8 r2, .int .u8 r3, .int .u16 r4, .bool r5, .bool r6], .int .i64 r7]) ∧ Below w.heap.size w w' := by
 unfold av.f aV.f at h
 simp only [Option.bind_some] at h
 by_cases c8 : a1 = 8
 ·subst c8
  rw [if_pos rfl] at h
  cases h
  go_enter Try.func43, Try.ntmps43
  go_wp2
  go_returns
  exact ⟨rfl, by go_grown⟩
 rw [if_neg c8] at h
 by_cases c9 : a1 = 9
 ·subst c9
  rw [if_pos rfl] at h
  cases h
  go_enter Try.func43, Try.ntmps43
  go_wp2
  go_returns
  exact ⟨rfl, by go_grown⟩
 rw [if_neg c9] at h
 by_cases c10 : a1 = 10
 ·subst c10
  rw [if_pos rfl] at h
  cases h
  go_enter Try.func43, Try.ntmps43
  go_wp2
  go_returns
  exact ⟨rfl, by go_grown⟩
 rw [if_neg c10] at h
 by_cases c11 : a1 = 11
 ·subst c11
  rw [if_pos rfl] at h
  cases h
  go_enter Try.func43, Try.ntmps43
  go_wp2
  go_returns
  exact ⟨rfl, by go_grown⟩
 rw [if_neg c11] at h
 by_cases c12 : a1 = 12
 ·subst c12
  rw [if_pos rfl] at h
  cases h
  go_enter Try.func43, Try.ntmps43
  go_wp2
  go_returns
  exact ⟨rfl, by go_grown⟩
 rw [if_neg c12] at h
 cases h
 go_enter Try.func43, Try.ntmps43
 go_wp2
 go_returns
 exact ⟨rfl, by go_grown⟩
def bD.f (a0_0 : Int) (a0_1 : Int) (a0_2 : Int) (a0_3 : Int) (a0_4 : Bool) (a0_5 : Bool) (a1 : Int) (a2 : Int) : Option (Int × Int × Int × Int × Bool × Bool × Int) := (bi.f a0_0 a0_1 a0_2 a0_3 a0_4 a0_5).bind fun bt378 => (if a1 = 8 then (some (Int.tmod a2 64, bt378.2.1, bt378.2.2.1, bt378.2.2.2.1, bt378.2.2.2.2.1, bt378.2.2.2.2.2, 0)) else (if a1 = 9 then (some (bt378.1, Int.tmod a2 64, bt378.2.2.1, bt378.2.2.2.1, bt378.2.2.2.2.1, bt378.2.2.2.2.2, 0)) else (if a1 = 10 then (some (bt378.1, bt378.2.1, Int.tmod a2 32, bt378.2.2.2.1, bt378.2.2.2.2.1, bt378.2.2.2.2.2, 0)) else (if a1 = 11 then (some (bt378.1, bt378.2.1, bt378.2.2.1, IntKind.u16.wrap ((IntKind.u16.wrap ((IntKind.u16.wrap (Int.tdiv bt378.2.2.2.1 256)) * 256)) + (IntKind.u16.wrap (a2))), bt378.2.2.2.2.1, bt378.2.2.2.2.2, 0)) else (if a1 = 12 then (some (bt378.1, bt378.2.1, bt378.2.2.1, IntKind.u16.wrap ((Int.tmod a0_3 256) + (IntKind.u16.wrap ((IntKind.u16.wrap (Int.tmod a2 2)) * 256))), ((Int.tdiv a2 64) % 2 == 1), decide (a2 ≥ 128), 0)) else (some (0, 0, 0, 0, false, false, 7)))))))
theorem bD.calls (a0_0 a0_1 a0_2 a0_3 : Int) (a0_4 a0_5 : Bool) (a1 a2 : Int) (r1 r2 r3 r4 : Int) (r5 r6 : Bool) (r7 : Int) (w : World) (h : bD.f a0_0 a0_1 a0_2 a0_3 a0_4 a0_5 a1 a2 = some (r1, r2, r3, r4, r5, r6, r7)) :
  Calls Try.prog 45 #[.agg #[.int .u8 a0_0, .int .u8 a0_1, .int .u8 a0_2, .int .u16 a0_3, .bool a0_4, .bool a0_5], .int .i64 a1, .int .u8 a2] w fun e w' => e = .returned (.tuple #[.agg #[.int .u8 r1, .int .u8 r2, .int .u8 r3, .int .u16 r4, .bool r5, .bool r6], .int .i64 r7]) ∧ Below w.heap.size w w' := by
 unfold bD.f bi.f at h
 simp only [Option.bind_some] at h
 by_cases c8 : a1 = 8
 ·subst c8
  rw [if_pos rfl] at h
  cases h
  go_enter Try.func45, Try.ntmps45
  go_wp2
  go_returns
  exact ⟨rfl, by go_grown⟩
 rw [if_neg c8] at h
 by_cases c9 : a1 = 9
 ·subst c9
  rw [if_pos rfl] at h
  cases h
  go_enter Try.func45, Try.ntmps45
  go_wp2
  go_returns
  exact ⟨rfl, by go_grown⟩
 rw [if_neg c9] at h
 by_cases c10 : a1 = 10
 ·subst c10
  rw [if_pos rfl] at h
  cases h
  go_enter Try.func45, Try.ntmps45
  go_wp2
  go_returns
  exact ⟨rfl, by go_grown⟩
 rw [if_neg c10] at h
 by_cases c11 : a1 = 11
 ·subst c11
  rw [if_pos rfl] at h
  cases h
  go_enter Try.func45, Try.ntmps45
  go_wp2
  go_returns
  exact ⟨rfl, by go_grown⟩
 rw [if_neg c11] at h
 by_cases c12 : a1 = 12
 ·subst c12
  rw [if_pos rfl] at h
  cases h
  go_enter Try.func45, Try.ntmps45
  go_wp2
  go_returns
  exact ⟨rfl, by go_grown⟩
 rw [if_neg c12] at h
 cases h
 go_enter Try.func45, Try.ntmps45
 go_wp2
 go_returns
 exact ⟨rfl, by go_grown⟩
end Go.Proofs.Ytmjjojbedllmgaa.Hand
