/- What the proof of the statement CartPlays stands on, part 12. (Packed by pack.py out of this session's texts.) -/
import Derived.Handy
import Derived.Lib.BufferWrite
import Derived.Laws.AppendOwn
import Derived.Laws.CopyOwn
import Derived.Laws.OwnMore
import Derived.Deep.MidRow
import Derived.Test.YtmjjojbedllmgaaQCartPlays0
import Derived.Test.YtmjjojbedllmgaaQCartPlays1
import Derived.Test.YtmjjojbedllmgaaQCartPlays5
import Derived.Test.YtmjjojbedllmgaaQCartPlays10
import Derived.Test.YtmjjojbedllmgaaQCartPlays11
set_option linter.unusedVariables false
set_option linter.unusedSimpArgs false
set_option maxRecDepth 100000
set_option maxHeartbeats 20000000
open Go.RowKit Go.Proofs.YtmjjojbedllmgaaW.PrintWords Go.Proofs.YtmjjojbedllmgaaW.PrintLast Go.Proofs.YtmjjojbedllmgaaW.PrintMore Go.Proofs.Ytmjjojbedllmgaa.G
section
namespace Go.Proofs.Ytmjjojbedllmgaa.Hand
open Go.Proofs.Ytmjjojbedllmgaa.Pure
def alike2.T : Bool × List (List Nat × List Nat) := (true, [([], []), ([], []), ([1], [1]), ([0, 2], [0, 2]), ([3], [3]), ([4], [4]), ([4], [4]), ([6, 4], [4, 6]), ([5, 7, 4], [4, 5, 7]), ([4, 8], [4, 8]), ([9, 4], [9]), ([10], [10]), ([10], [10]), ([12, 10], [10, 12]), ([11, 13, 10], [10, 11, 13]), ([10, 14], [10, 14]), ([15, 10], [15]), ([16], [16]), ([17, 16, 16], [16, 17]), ([18, 16], [16, 18]), ([16], [16]), ([20, 16], [16, 20]), ([21, 16], [16, 21]), ([19, 22, 16], [16, 19, 22]), ([16, 23], [16, 23]), ([24, 18, 0, 1, 2, 3, 4, 5, 6, 7, 8, 9, 10, 11, 12, 13, 14, 15, 16, 17, 18, 19, 20, 21, 22, 23, 24], [24])])
def alike2.B : List Nat := [0, 0, 2, 7, 15, 31, 31, 95, 255, 511, 1023, 2047, 2047, 6143, 16383, 32767, 65535, 131071, 262143, 524287, 131071, 1179647, 3276799, 8388607, 16777215, 33554431]
theorem alike2.tab : rtab .any (opsOf Try.f26 2) = alike2.T := by kernel_rfl
theorem alike2.bits : waitsOk alike2.T.2 alike2.B = true := by kernel_rfl
theorem alike_at {w : World} {a : Ad} {B : Nat} (s : Ct) (Ai : Option Addr) (ci : Nat) (Ar : Option Addr) (cr : Nat) (h : ax w a s) (ok : s.Ok) (hr : RefAt w B (⟨s, Ai, ci, Ar, cr⟩ : Rt)) :
  Calls Try.prog 26 #[a.p, (⟨s, Ai, ci, Ar, cr⟩ : Rt).v] w fun e w' => e = .returned (.bool true) ∧ Below w.heap.size w w' := by
 have OK := ab.mk ok
 have BX := ab.mk (ao.new w (⟨s, Ai, ci, Ar, cr⟩ : Rt))
 have HB := ab.mk (ac (Below.refl w.heap.size w) (.cells (⟨s, Ai, ci, Ar, cr⟩ : Rt).cells.toArray 36))
 have CA := ab.mk (h.below HB.out)
 have HH := ab.mk (hr.below HB.out).ram
 clear h hr ok
 go_enter Try.func26, Try.ntmps26
 go_wp2_with fail
 refine (state_at CA.out).mono ?_
 rintro e' w1 ⟨rfl, hb⟩
 have BX_ := ab.mk (BX.out.below hb)
 have CA_ := ab.mk (CA.out.below hb)
 have HH_ := ab.mk (HH.out.below hb)
 have HB_ := ab.mk (ak HB.out hb)
 clear BX CA HH HB hb
 go_wp2_with fail
 have b0 := ah (ah (aC w1 (.cells #[.int .i64 s.mp.k, .bool s.mp.o, .int .u8 s.mp.l, .int .u8 s.mp.h, .int .u8 s.mp.r, .bool s.mp.md] 32)) (.cells #[.int .u8 s.lv.s, .int .u8 s.lv.m, .int .u8 s.lv.h, .int .u16 s.lv.d, .bool s.lv.ht, .bool s.lv.cy] 34)) (.cells #[.int .u8 s.hd.s, .int .u8 s.hd.m, .int .u8 s.hd.h, .int .u16 s.hd.d, .bool s.hd.ht, .bool s.hd.cy] 34)
 have b1 := ah (blk_at2 w1 (.cells #[.int .i64 s.mp.k, .bool s.mp.o, .int .u8 s.mp.l, .int .u8 s.mp.h, .int .u8 s.mp.r, .bool s.mp.md] 32) (.cells #[.int .u8 s.lv.s, .int .u8 s.lv.m, .int .u8 s.lv.h, .int .u16 s.lv.d, .bool s.lv.ht, .bool s.lv.cy] 34)) (.cells #[.int .u8 s.hd.s, .int .u8 s.hd.m, .int .u8 s.hd.h, .int .u16 s.hd.d, .bool s.hd.ht, .bool s.hd.cy] 34)
 have b2 := blk_at3 w1 (.cells #[.int .i64 s.mp.k, .bool s.mp.o, .int .u8 s.mp.l, .int .u8 s.mp.h, .int .u8 s.mp.r, .bool s.mp.md] 32) (.cells #[.int .u8 s.lv.s, .int .u8 s.lv.m, .int .u8 s.lv.h, .int .u16 s.lv.d, .bool s.lv.ht, .bool s.lv.cy] 34) (.cells #[.int .u8 s.hd.s, .int .u8 s.hd.m, .int .u8 s.hd.h, .int .u16 s.hd.d, .bool s.hd.ht, .bool s.hd.cy] 34)
 have hb := ac (ac (ac (Below.refl w1.heap.size w1) (.cells #[.int .i64 s.mp.k, .bool s.mp.o, .int .u8 s.mp.l, .int .u8 s.mp.h, .int .u8 s.mp.r, .bool s.mp.md] 32)) (.cells #[.int .u8 s.lv.s, .int .u8 s.lv.m, .int .u8 s.lv.h, .int .u16 s.lv.d, .bool s.lv.ht, .bool s.lv.cy] 34)) (.cells #[.int .u8 s.hd.s, .int .u8 s.hd.m, .int .u8 s.hd.h, .int .u16 s.hd.d, .bool s.hd.ht, .bool s.hd.cy] 34)
 generalize ((w1.alloc (.cells #[.int .i64 s.mp.k, .bool s.mp.o, .int .u8 s.mp.l, .int .u8 s.mp.h, .int .u8 s.mp.r, .bool s.mp.md] 32)).alloc (.cells #[.int .u8 s.lv.s, .int .u8 s.lv.m, .int .u8 s.lv.h, .int .u16 s.lv.d, .bool s.lv.ht, .bool s.lv.cy] 34)).alloc (.cells #[.int .u8 s.hd.s, .int .u8 s.hd.m, .int .u8 s.hd.h, .int .u16 s.hd.d, .bool s.hd.ht, .bool s.hd.cy] 34) = w2 at b0 b1 b2 hb ⊢
 have BX := ab.mk (BX_.out.below hb)
 have CA := ab.mk (CA_.out.below hb)
 have HH := ab.mk (HH_.out.below hb)
 have HB := ab.mk (ak HB_.out hb)
 have B0 := ab.mk b0
 have B1 := ab.mk b1
 have B2 := ab.mk b2
 clear BX_ CA_ HH_ HB_ hb b0 b1 b2
 have HD := ab.mk (aj (Below.refl w2.heap.size w2))
 refine start_ (n := 26) (S := fun w' => w'.cell? ⟨w1.heap.size, 0, none⟩ = some (.int .i64 s.mp.k) ∧ w'.cell? ⟨w1.heap.size, 1, none⟩ = some (.bool s.mp.o) ∧ w'.cell? ⟨w1.heap.size, 2, none⟩ = some (.int .u8 s.mp.l) ∧ w'.cell? ⟨w1.heap.size, 3, none⟩ = some (.int .u8 s.mp.h) ∧ w'.cell? ⟨w1.heap.size, 4, none⟩ = some (.int .u8 s.mp.r) ∧ w'.cell? ⟨w1.heap.size, 5, none⟩ = some (.bool s.mp.md) ∧ w'.cell? ⟨w1.heap.size + 1, 0, none⟩ = some (.int .u8 s.lv.s) ∧ w'.cell? ⟨w1.heap.size + 1, 1, none⟩ = some (.int .u8 s.lv.m) ∧ w'.cell? ⟨w1.heap.size + 1, 2, none⟩ = some (.int .u8 s.lv.h) ∧ w'.cell? ⟨w1.heap.size + 1, 3, none⟩ = some (.int .u16 s.lv.d) ∧ w'.cell? ⟨w1.heap.size + 1, 4, none⟩ = some (.bool s.lv.ht) ∧ w'.cell? ⟨w1.heap.size + 1, 5, none⟩ = some (.bool s.lv.cy) ∧ w'.cell? ⟨w1.heap.size + 2, 0, none⟩ = some (.int .u8 s.hd.s) ∧ w'.cell? ⟨w1.heap.size + 2, 1, none⟩ = some (.int .u8 s.hd.m) ∧ w'.cell? ⟨w1.heap.size + 2, 2, none⟩ = some (.int .u8 s.hd.h) ∧ w'.cell? ⟨w1.heap.size + 2, 3, none⟩ = some (.int .u16 s.hd.d) ∧ w'.cell? ⟨w1.heap.size + 2, 4, none⟩ = some (.bool s.hd.ht) ∧ w'.cell? ⟨w1.heap.size + 2, 5, none⟩ = some (.bool s.hd.cy) ∧ w'.cell? ⟨w.heap.size, 12, none⟩ = some (.slice Ar s.ram.length cr) ∧ w'.cell? ⟨w.heap.size, 13, none⟩ = some (.int .i64 s.mp.k) ∧ w'.cell? ⟨w.heap.size, 14, none⟩ = some (.bool s.mp.o) ∧ w'.cell? ⟨w.heap.size, 15, none⟩ = some (.int .u8 s.mp.l) ∧ w'.cell? ⟨w.heap.size, 16, none⟩ = some (.int .u8 s.mp.h) ∧ w'.cell? ⟨w.heap.size, 17, none⟩ = some (.int .u8 s.mp.r) ∧ w'.cell? ⟨w.heap.size, 18, none⟩ = some (.bool s.mp.md) ∧ w'.cell? ⟨w.heap.size, 19, none⟩ = some (.int .u8 s.lv.s) ∧ w'.cell? ⟨w.heap.size, 20, none⟩ = some (.int .u8 s.lv.m) ∧ w'.cell? ⟨w.heap.size, 21, none⟩ = some (.int .u8 s.lv.h) ∧ w'.cell? ⟨w.heap.size, 22, none⟩ = some (.int .u16 s.lv.d) ∧ w'.cell? ⟨w.heap.size, 23, none⟩ = some (.bool s.lv.ht) ∧ w'.cell? ⟨w.heap.size, 24, none⟩ = some (.bool s.lv.cy) ∧ w'.cell? ⟨w.heap.size, 25, none⟩ = some (.int .u8 s.hd.s) ∧ w'.cell? ⟨w.heap.size, 26, none⟩ = some (.int .u8 s.hd.m) ∧ w'.cell? ⟨w.heap.size, 27, none⟩ = some (.int .u8 s.hd.h) ∧ w'.cell? ⟨w.heap.size, 28, none⟩ = some (.int .u16 s.hd.d) ∧ w'.cell? ⟨w.heap.size, 29, none⟩ = some (.bool s.hd.ht) ∧ w'.cell? ⟨w.heap.size, 30, none⟩ = some (.bool s.hd.cy) ∧ (convert 22 9 (.slice Ar s.ram.length cr)).run Try.prog w' = .ok (.string (strOfNums s.ram)) w') (ds := []) #[false, false, false, false, false, false, false, false, false, false, false, false, false, false, false, false, false, false, false, false, false, false, false, false, false, false] (by kernel_rfl) rfl rfl ⟨(aa (af B0.out HD.out) 0).trans rfl, (aa (af B0.out HD.out) 1).trans rfl, (aa (af B0.out HD.out) 2).trans rfl, (aa (af B0.out HD.out) 3).trans rfl, (aa (af B0.out HD.out) 4).trans rfl, (aa (af B0.out HD.out) 5).trans rfl, (aa (af B1.out HD.out) 0).trans rfl, (aa (af B1.out HD.out) 1).trans rfl, (aa (af B1.out HD.out) 2).trans rfl, (aa (af B1.out HD.out) 3).trans rfl, (aa (af B1.out HD.out) 4).trans rfl, (aa (af B1.out HD.out) 5).trans rfl, (aa (af B2.out HD.out) 0).trans rfl, (aa (af B2.out HD.out) 1).trans rfl, (aa (af B2.out HD.out) 2).trans rfl, (aa (af B2.out HD.out) 3).trans rfl, (aa (af B2.out HD.out) 4).trans rfl, (aa (af B2.out HD.out) 5).trans rfl, ao.c12 (BX.out.below HD.out), ao.c13 (BX.out.below HD.out), ao.c14 (BX.out.below HD.out), ao.c15 (BX.out.below HD.out), ao.c16 (BX.out.below HD.out), ao.c17 (BX.out.below HD.out), ao.c18 (BX.out.below HD.out), ao.c19 (BX.out.below HD.out), ao.c20 (BX.out.below HD.out), ao.c21 (BX.out.below HD.out), ao.c22 (BX.out.below HD.out), ao.c23 (BX.out.below HD.out), ao.c24 (BX.out.below HD.out), ao.c25 (BX.out.below HD.out), ao.c26 (BX.out.below HD.out), ao.c27 (BX.out.below HD.out), ao.c28 (BX.out.below HD.out), ao.c29 (BX.out.below HD.out), ao.c30 (BX.out.below HD.out), (HH.out.below HD.out).text⟩ (fun hHeld => ?_)
 refine with_tabW alike2.tab alike2.bits (fun HT_ HW_ => ?_)
 refine bn (i := 1) (N := some 15) (v := ?_) (a' := ?_) #[false, true, false, false, false, false, false, false, false, false, false, false, false, false, false, false, false, false, false, false, false, false, false, false, false, false] rfl rfl (ba HT_.out (by kernel_rfl)) (fun _ _ _ h => h) (Or.inl ⟨by rfl, ?_⟩) ?_ ?_
 rotate_left
 ·intro w'
  go_simp
  with_reducible rfl
 rotate_left
 ·simp only [Act.put, List.setIfInBounds_toArray, List.set_cons_zero, List.set_cons_succ, aQ, aT]
  rfl
 refine bT (i := 0) (N := some 14) (v := ?_) (a' := ?_) #[true, true, false, false, false, false, false, false, false, false, false, false, false, false, false, false, false, false, false, false, false, false, false, false, false, false] rfl rfl (bg HT_.out HW_.out (by kernel_rfl)) (fun _ _ _ h => h) (Or.inl ⟨by rfl, ?_⟩) hHeld ?_ ?_
 rotate_left
 ·rintro w' ⟨s0, s1, s2, s3, s4, s5, s6, s7, s8, s9, s10, s11, s12, s13, s14, s15, s16, s17, s18, s19, s20, s21, s22, s23, s24, s25, s26, s27, s28, s29, s30, s31, s32, s33, s34, s35, s36, s37⟩
  go_simp
  with_reducible rfl
 rotate_left
 ·simp only [Act.put, List.setIfInBounds_toArray, List.set_cons_zero, List.set_cons_succ, aQ, aT]
  rfl
 refine bT (i := 2) (N := some 16) (v := ?_) (a' := ?_) #[true, true, true, false, false, false, false, false, false, false, false, false, false, false, false, false, false, false, false, false, false, false, false, false, false, false] rfl rfl (bg HT_.out HW_.out (by kernel_rfl)) (fun _ _ _ h => h) (Or.inl ⟨by rfl, ?_⟩) hHeld ?_ ?_
 rotate_left
 ·rintro w' ⟨s0, s1, s2, s3, s4, s5, s6, s7, s8, s9, s10, s11, s12, s13, s14, s15, s16, s17, s18, s19, s20, s21, s22, s23, s24, s25, s26, s27, s28, s29, s30, s31, s32, s33, s34, s35, s36, s37⟩
  go_simp
  with_reducible rfl
 rotate_left
 ·simp only [Act.put, List.setIfInBounds_toArray, List.set_cons_zero, List.set_cons_succ, aQ, aT]
  rfl
 refine bn (i := 3) (N := some 17) (v := ?_) (a' := ?_) #[true, true, true, true, false, false, false, false, false, false, false, false, false, false, false, false, false, false, false, false, false, false, false, false, false, false] rfl rfl (ba HT_.out (by kernel_rfl)) (fun _ _ _ h => h) (Or.inl ⟨by rfl, ?_⟩) ?_ ?_
 rotate_left
 ·intro w'
  go_simp
  with_reducible rfl
 rotate_left
 ·simp only [Act.put, List.setIfInBounds_toArray, List.set_cons_zero, List.set_cons_succ, aQ, aT]
  rfl
 refine bn (i := 4) (N := some 18) (v := ?_) (a' := ?_) #[true, true, true, true, true, false, false, false, false, false, false, false, false, false, false, false, false, false, false, false, false, false, false, false, false, false] rfl rfl (ba HT_.out (by kernel_rfl)) (fun _ _ _ h => h) (Or.inl ⟨by rfl, ?_⟩) ?_ ?_
 rotate_left
 ·intro w'
  go_simp
  with_reducible rfl
 rotate_left
 ·simp only [Act.put, List.setIfInBounds_toArray, List.set_cons_zero, List.set_cons_succ, aQ, aT]
  rfl
 refine bn (i := 6) (N := some 20) (v := ?_) (a' := ?_) #[true, true, true, true, true, false, true, false, false, false, false, false, false, false, false, false, false, false, false, false, false, false, false, false, false, false] rfl rfl (ba HT_.out (by kernel_rfl)) (fun _ _ _ h => h) (Or.inl ⟨by rfl, ?_⟩) ?_ ?_
 rotate_left
 ·intro w'
  go_simp
  with_reducible rfl
 rotate_left
 ·simp only [Act.put, List.setIfInBounds_toArray, List.set_cons_zero, List.set_cons_succ, aQ, aT]
  rfl
 refine bT (i := 5) (N := some 19) (v := ?_) (a' := ?_) #[true, true, true, true, true, true, true, false, false, false, false, false, false, false, false, false, false, false, false, false, false, false, false, false, false, false] rfl rfl (bg HT_.out HW_.out (by kernel_rfl)) (fun _ _ _ h => h) (Or.inl ⟨by rfl, ?_⟩) hHeld ?_ ?_
 rotate_left
 ·rintro w' ⟨s0, s1, s2, s3, s4, s5, s6, s7, s8, s9, s10, s11, s12, s13, s14, s15, s16, s17, s18, s19, s20, s21, s22, s23, s24, s25, s26, s27, s28, s29, s30, s31, s32, s33, s34, s35, s36, s37⟩
  go_simp
  with_reducible rfl
 rotate_left
 ·simp only [Act.put, List.setIfInBounds_toArray, List.set_cons_zero, List.set_cons_succ, aQ, aT]
  rfl
 refine bT (i := 7) (N := some 21) (v := ?_) (a' := ?_) #[true, true, true, true, true, true, true, true, false, false, false, false, false, false, false, false, false, false, false, false, false, false, false, false, false, false] rfl rfl (bg HT_.out HW_.out (by kernel_rfl)) (fun _ _ _ h => h) (Or.inl ⟨by rfl, ?_⟩) hHeld ?_ ?_
 rotate_left
 ·rintro w' ⟨s0, s1, s2, s3, s4, s5, s6, s7, s8, s9, s10, s11, s12, s13, s14, s15, s16, s17, s18, s19, s20, s21, s22, s23, s24, s25, s26, s27, s28, s29, s30, s31, s32, s33, s34, s35, s36, s37⟩
  go_simp
  with_reducible rfl
 rotate_left
 ·simp only [Act.put, List.setIfInBounds_toArray, List.set_cons_zero, List.set_cons_succ, aQ, aT]
  rfl
 refine bn (i := 8) (N := some 22) (v := ?_) (a' := ?_) #[true, true, true, true, true, true, true, true, true, false, false, false, false, false, false, false, false, false, false, false, false, false, false, false, false, false] rfl rfl (ba HT_.out (by kernel_rfl)) (fun _ _ _ h => h) (Or.inl ⟨by rfl, ?_⟩) ?_ ?_
 rotate_left
 ·intro w'
  go_simp
  with_reducible rfl
 rotate_left
 ·simp only [Act.put, List.setIfInBounds_toArray, List.set_cons_zero, List.set_cons_succ, aQ, aT]
  rfl
 refine bn (i := 9) (N := some 23) (v := ?_) (a' := ?_) #[true, true, true, true, true, true, true, true, true, true, false, false, false, false, false, false, false, false, false, false, false, false, false, false, false, false] rfl rfl (ba HT_.out (by kernel_rfl)) (fun _ _ _ h => h) (Or.inl ⟨by rfl, ?_⟩) ?_ ?_
 rotate_left
 ·intro w'
  go_simp
  with_reducible rfl
 rotate_left
 ·simp only [Act.put, List.setIfInBounds_toArray, List.set_cons_zero, List.set_cons_succ, aQ, aT]
  rfl
 refine bn (i := 10) (N := some 24) (v := ?_) (a' := ?_) #[true, true, true, true, true, true, true, true, true, true, true, false, false, false, false, false, false, false, false, false, false, false, false, false, false, false] rfl rfl (ba HT_.out (by kernel_rfl)) (fun _ _ _ h => h) (Or.inl ⟨by rfl, ?_⟩) ?_ ?_
 rotate_left
 ·intro w'
  go_simp
  with_reducible rfl
 rotate_left
 ·simp only [Act.put, List.setIfInBounds_toArray, List.set_cons_zero, List.set_cons_succ, aQ, aT]
  rfl
 refine bn (i := 12) (N := some 26) (v := ?_) (a' := ?_) #[true, true, true, true, true, true, true, true, true, true, true, false, true, false, false, false, false, false, false, false, false, false, false, false, false, false] rfl rfl (ba HT_.out (by kernel_rfl)) (fun _ _ _ h => h) (Or.inl ⟨by rfl, ?_⟩) ?_ ?_
 rotate_left
 ·intro w'
  go_simp
  with_reducible rfl
 rotate_left
 ·simp only [Act.put, List.setIfInBounds_toArray, List.set_cons_zero, List.set_cons_succ, aQ, aT]
  rfl
 refine bT (i := 11) (N := some 25) (v := ?_) (a' := ?_) #[true, true, true, true, true, true, true, true, true, true, true, true, true, false, false, false, false, false, false, false, false, false, false, false, false, false] rfl rfl (bg HT_.out HW_.out (by kernel_rfl)) (fun _ _ _ h => h) (Or.inl ⟨by rfl, ?_⟩) hHeld ?_ ?_
 rotate_left
 ·rintro w' ⟨s0, s1, s2, s3, s4, s5, s6, s7, s8, s9, s10, s11, s12, s13, s14, s15, s16, s17, s18, s19, s20, s21, s22, s23, s24, s25, s26, s27, s28, s29, s30, s31, s32, s33, s34, s35, s36, s37⟩
  go_simp
  with_reducible rfl
 rotate_left
 ·simp only [Act.put, List.setIfInBounds_toArray, List.set_cons_zero, List.set_cons_succ, aQ, aT]
  rfl
 refine bT (i := 13) (N := some 27) (v := ?_) (a' := ?_) #[true, true, true, true, true, true, true, true, true, true, true, true, true, true, false, false, false, false, false, false, false, false, false, false, false, false] rfl rfl (bg HT_.out HW_.out (by kernel_rfl)) (fun _ _ _ h => h) (Or.inl ⟨by rfl, ?_⟩) hHeld ?_ ?_
 rotate_left
 ·rintro w' ⟨s0, s1, s2, s3, s4, s5, s6, s7, s8, s9, s10, s11, s12, s13, s14, s15, s16, s17, s18, s19, s20, s21, s22, s23, s24, s25, s26, s27, s28, s29, s30, s31, s32, s33, s34, s35, s36, s37⟩
  go_simp
  with_reducible rfl
 rotate_left
 ·simp only [Act.put, List.setIfInBounds_toArray, List.set_cons_zero, List.set_cons_succ, aQ, aT]
  rfl
 refine bn (i := 14) (N := some 28) (v := ?_) (a' := ?_) #[true, true, true, true, true, true, true, true, true, true, true, true, true, true, true, false, false, false, false, false, false, false, false, false, false, false] rfl rfl (ba HT_.out (by kernel_rfl)) (fun _ _ _ h => h) (Or.inl ⟨by rfl, ?_⟩) ?_ ?_
 rotate_left
 ·intro w'
  go_simp
  with_reducible rfl
 rotate_left
 ·simp only [Act.put, List.setIfInBounds_toArray, List.set_cons_zero, List.set_cons_succ, aQ, aT]
  rfl
 refine bn (i := 15) (N := some 29) (v := ?_) (a' := ?_) #[true, true, true, true, true, true, true, true, true, true, true, true, true, true, true, true, false, false, false, false, false, false, false, false, false, false] rfl rfl (ba HT_.out (by kernel_rfl)) (fun _ _ _ h => h) (Or.inl ⟨by rfl, ?_⟩) ?_ ?_
 rotate_left
 ·intro w'
  go_simp
  with_reducible rfl
 rotate_left
 ·simp only [Act.put, List.setIfInBounds_toArray, List.set_cons_zero, List.set_cons_succ, aQ, aT]
  rfl
 refine bn (i := 16) (N := some 30) (v := ?_) (a' := ?_) #[true, true, true, true, true, true, true, true, true, true, true, true, true, true, true, true, true, false, false, false, false, false, false, false, false, false] rfl rfl (ba HT_.out (by kernel_rfl)) (fun _ _ _ h => h) (Or.inl ⟨by rfl, ?_⟩) ?_ ?_
 rotate_left
 ·intro w'
  go_simp
  with_reducible rfl
 rotate_left
 ·simp only [Act.put, List.setIfInBounds_toArray, List.set_cons_zero, List.set_cons_succ, aQ, aT]
  rfl
 refine bn (i := 17) (N := some 31) (v := ?_) (a' := ?_) #[true, true, true, true, true, true, true, true, true, true, true, true, true, true, true, true, true, true, false, false, false, false, false, false, false, false] rfl rfl (ba HT_.out (by kernel_rfl)) (fun _ _ _ h => h) (Or.inl ⟨by rfl, ?_⟩) ?_ ?_
 rotate_left
 ·intro w'
  go_simp
  with_reducible rfl
 rotate_left
 ·simp only [Act.put, List.setIfInBounds_toArray, List.set_cons_zero, List.set_cons_succ, aQ, aT]
  rfl
 refine bn (i := 20) (N := some 34) (v := ?_) (a' := ?_) #[true, true, true, true, true, true, true, true, true, true, true, true, true, true, true, true, true, true, false, false, true, false, false, false, false, false] rfl rfl (ba HT_.out (by kernel_rfl)) (fun _ _ _ h => h) (Or.inl ⟨by rfl, ?_⟩) ?_ ?_
 rotate_left
 ·intro w'
  go_simp
  with_reducible rfl
 rotate_left
 ·simp only [Act.put, List.setIfInBounds_toArray, List.set_cons_zero, List.set_cons_succ, aQ, aT]
  rfl
 refine bT (i := 21) (N := some 35) (v := ?_) (a' := ?_) #[true, true, true, true, true, true, true, true, true, true, true, true, true, true, true, true, true, true, false, false, true, true, false, false, false, false] rfl rfl (bg HT_.out HW_.out (by kernel_rfl)) (fun _ _ _ h => h) (Or.inl ⟨by rfl, ?_⟩) hHeld ?_ ?_
 rotate_left
 ·rintro w' ⟨s0, s1, s2, s3, s4, s5, s6, s7, s8, s9, s10, s11, s12, s13, s14, s15, s16, s17, s18, s19, s20, s21, s22, s23, s24, s25, s26, s27, s28, s29, s30, s31, s32, s33, s34, s35, s36, s37⟩
  go_simp
  with_reducible rfl
 rotate_left
 ·simp only [Act.put, List.setIfInBounds_toArray, List.set_cons_zero, List.set_cons_succ, aQ, aT]
  rfl
 refine bT (i := 22) (N := some 36) (v := ?_) (a' := ?_) #[true, true, true, true, true, true, true, true, true, true, true, true, true, true, true, true, true, true, false, false, true, true, true, false, false, false] rfl rfl (bg HT_.out HW_.out (by kernel_rfl)) (fun _ _ _ h => h) (Or.inl ⟨by rfl, ?_⟩) hHeld ?_ ?_
 rotate_left
 ·rintro w' ⟨s0, s1, s2, s3, s4, s5, s6, s7, s8, s9, s10, s11, s12, s13, s14, s15, s16, s17, s18, s19, s20, s21, s22, s23, s24, s25, s26, s27, s28, s29, s30, s31, s32, s33, s34, s35, s36, s37⟩
  go_simp
  with_reducible rfl
 rotate_left
 ·simp only [Act.put, List.setIfInBounds_toArray, List.set_cons_zero, List.set_cons_succ, aQ, aT]
  rfl
 refine one_ (i := 18) (N := some 32) #[true, true, true, true, true, true, true, true, true, true, true, true, true, true, true, true, true, true, true, false, true, true, true, false, false, false] rfl rfl (one_of HT_.out (by kernel_rfl)) (by decide) (fun K hK => ?_)
 refine goes_ Try.func15 (by kernel_rfl) rfl #[a.p] (by rfl) rfl rfl (by (try simp only [List.map_toArray, List.map_cons, List.map_nil]); first | done | rfl) ?_
 refine (ram_at (CA.out.below HD.out) OK.out.r1).mono ?_
 rintro e' w3 ⟨v0, rfl, hR, hb⟩
 obtain ⟨A7, c7, rfl, hH⟩ := held_of_R hR
 have T1 := ab.mk hH
 have HX := ab.mk (ak HD.out hb)
 clear hb hR hH
 refine ⟨_, rfl, ?_⟩
 refine hK.out _ _ ⟨(aa (af B0.out HX.out) 0).trans rfl, (aa (af B0.out HX.out) 1).trans rfl, (aa (af B0.out HX.out) 2).trans rfl, (aa (af B0.out HX.out) 3).trans rfl, (aa (af B0.out HX.out) 4).trans rfl, (aa (af B0.out HX.out) 5).trans rfl, (aa (af B1.out HX.out) 0).trans rfl, (aa (af B1.out HX.out) 1).trans rfl, (aa (af B1.out HX.out) 2).trans rfl, (aa (af B1.out HX.out) 3).trans rfl, (aa (af B1.out HX.out) 4).trans rfl, (aa (af B1.out HX.out) 5).trans rfl, (aa (af B2.out HX.out) 0).trans rfl, (aa (af B2.out HX.out) 1).trans rfl, (aa (af B2.out HX.out) 2).trans rfl, (aa (af B2.out HX.out) 3).trans rfl, (aa (af B2.out HX.out) 4).trans rfl, (aa (af B2.out HX.out) 5).trans rfl, ao.c12 (BX.out.below HX.out), ao.c13 (BX.out.below HX.out), ao.c14 (BX.out.below HX.out), ao.c15 (BX.out.below HX.out), ao.c16 (BX.out.below HX.out), ao.c17 (BX.out.below HX.out), ao.c18 (BX.out.below HX.out), ao.c19 (BX.out.below HX.out), ao.c20 (BX.out.below HX.out), ao.c21 (BX.out.below HX.out), ao.c22 (BX.out.below HX.out), ao.c23 (BX.out.below HX.out), ao.c24 (BX.out.below HX.out), ao.c25 (BX.out.below HX.out), ao.c26 (BX.out.below HX.out), ao.c27 (BX.out.below HX.out), ao.c28 (BX.out.below HX.out), ao.c29 (BX.out.below HX.out), ao.c30 (BX.out.below HX.out), (HH.out.below HX.out).text⟩ (fun hHeld => ?_)
 clear hK K
 refine norm_ (a' := ?_) ?_ ?_
 rotate_left
 ·show Act.put _ (some 32) _ = _
  simp only [Act.put, List.setIfInBounds_toArray, List.set_cons_zero, List.set_cons_succ, aQ, aT]
  rfl
 refine one_ (i := 19) (N := some 33) #[true, true, true, true, true, true, true, true, true, true, true, true, true, true, true, true, true, true, true, true, true, true, true, false, false, false] rfl rfl (one_of HT_.out (by kernel_rfl)) (by decide) (fun K hK => ?_)
 have ts_ := T1.out.text
 refine event_step (v := .string (strOfNums s.ram)) (by rfl) (by go_simp; rfl) ?_
 refine hK.out _ _ ⟨(aa (af B0.out HX.out) 0).trans rfl, (aa (af B0.out HX.out) 1).trans rfl, (aa (af B0.out HX.out) 2).trans rfl, (aa (af B0.out HX.out) 3).trans rfl, (aa (af B0.out HX.out) 4).trans rfl, (aa (af B0.out HX.out) 5).trans rfl, (aa (af B1.out HX.out) 0).trans rfl, (aa (af B1.out HX.out) 1).trans rfl, (aa (af B1.out HX.out) 2).trans rfl, (aa (af B1.out HX.out) 3).trans rfl, (aa (af B1.out HX.out) 4).trans rfl, (aa (af B1.out HX.out) 5).trans rfl, (aa (af B2.out HX.out) 0).trans rfl, (aa (af B2.out HX.out) 1).trans rfl, (aa (af B2.out HX.out) 2).trans rfl, (aa (af B2.out HX.out) 3).trans rfl, (aa (af B2.out HX.out) 4).trans rfl, (aa (af B2.out HX.out) 5).trans rfl, ao.c12 (BX.out.below HX.out), ao.c13 (BX.out.below HX.out), ao.c14 (BX.out.below HX.out), ao.c15 (BX.out.below HX.out), ao.c16 (BX.out.below HX.out), ao.c17 (BX.out.below HX.out), ao.c18 (BX.out.below HX.out), ao.c19 (BX.out.below HX.out), ao.c20 (BX.out.below HX.out), ao.c21 (BX.out.below HX.out), ao.c22 (BX.out.below HX.out), ao.c23 (BX.out.below HX.out), ao.c24 (BX.out.below HX.out), ao.c25 (BX.out.below HX.out), ao.c26 (BX.out.below HX.out), ao.c27 (BX.out.below HX.out), ao.c28 (BX.out.below HX.out), ao.c29 (BX.out.below HX.out), ao.c30 (BX.out.below HX.out), (HH.out.below HX.out).text⟩ (fun hHeld => ?_)
 clear hK K
 refine norm_ (a' := ?_) ?_ ?_
 rotate_left
 ·show Act.put _ (some 33) _ = _
  simp only [Act.put, List.setIfInBounds_toArray, List.set_cons_zero, List.set_cons_succ, aQ, aT]
  rfl
 clear ts_
 refine bn (i := 23) (N := some 37) (v := ?_) (a' := ?_) #[true, true, true, true, true, true, true, true, true, true, true, true, true, true, true, true, true, true, true, true, true, true, true, true, false, false] rfl rfl (ba HT_.out (by kernel_rfl)) (fun _ _ _ h => h) (Or.inl ⟨by rfl, ?_⟩) ?_ ?_
 rotate_left
 ·intro w'
  go_simp
  with_reducible rfl
 rotate_left
 ·simp only [Act.put, List.setIfInBounds_toArray, List.set_cons_zero, List.set_cons_succ, aQ, aT]
  rfl
 refine bn (i := 24) (N := some 38) (v := ?_) (a' := ?_) #[true, true, true, true, true, true, true, true, true, true, true, true, true, true, true, true, true, true, true, true, true, true, true, true, true, false] rfl rfl (ba HT_.out (by kernel_rfl)) (fun _ _ _ h => h) (Or.inl ⟨by rfl, ?_⟩) ?_ ?_
 rotate_left
 ·intro w'
  go_simp
  with_reducible rfl
 rotate_left
 ·simp only [Act.put, List.setIfInBounds_toArray, List.set_cons_zero, List.set_cons_succ, aQ, aT]
  rfl
 refine bn (i := 25) (N := some 4) (v := ?_) (a' := ?_) #[true, true, true, true, true, true, true, true, true, true, true, true, true, true, true, true, true, true, true, true, true, true, true, true, true, true] rfl rfl (ba HT_.out (by kernel_rfl)) (fun _ _ _ h => h) (Or.inl ⟨by rfl, ?_⟩) ?_ ?_
 rotate_left
 ·intro w'
  go_simp
  with_reducible rfl
 rotate_left
 ·simp only [Act.put, List.setIfInBounds_toArray, List.set_cons_zero, List.set_cons_succ, aQ, aT]
  rfl
 refine done_ (done_of HT_.out (by kernel_rfl)) ?_
 go_wp2
 go_returns
 exact ⟨rfl, ak HB.out HX.out⟩
theorem alike_nil : Puts 26 #[.pointer none, .agg #[.bool false, .string ⟨#[]⟩, .int .u8 0, .int .i64 0, .bool false, .bool false, .bool false, .int .i64 0, .int .i64 0, .int .u8 0, .int .u16 0, .slice none 0 0, .slice none 0 0, .int .i64 0, .bool false, .int .u8 0, .int .u8 0, .int .u8 0, .bool false, .int .u8 0, .int .u8 0, .int .u8 0, .int .u16 0, .bool false, .bool false, .int .u8 0, .int .u8 0, .int .u8 0, .int .u16 0, .bool false, .bool false, .int .u8 0]] (.bool true) := by
 intro w
 have BX := ab.mk (aC w (.cells #[.bool false, .string ⟨#[]⟩, .int .u8 0, .int .i64 0, .bool false, .bool false, .bool false, .int .i64 0, .int .i64 0, .int .u8 0, .int .u16 0, .slice none 0 0, .slice none 0 0, .int .i64 0, .bool false, .int .u8 0, .int .u8 0, .int .u8 0, .bool false, .int .u8 0, .int .u8 0, .int .u8 0, .int .u16 0, .bool false, .bool false, .int .u8 0, .int .u8 0, .int .u8 0, .int .u16 0, .bool false, .bool false, .int .u8 0] 36))
 have HB := ab.mk (ac (Below.refl w.heap.size w) (.cells #[.bool false, .string ⟨#[]⟩, .int .u8 0, .int .i64 0, .bool false, .bool false, .bool false, .int .i64 0, .int .i64 0, .int .u8 0, .int .u16 0, .slice none 0 0, .slice none 0 0, .int .i64 0, .bool false, .int .u8 0, .int .u8 0, .int .u8 0, .bool false, .int .u8 0, .int .u8 0, .int .u8 0, .int .u16 0, .bool false, .bool false, .int .u8 0, .int .u8 0, .int .u8 0, .int .u16 0, .bool false, .bool false, .int .u8 0] 36))
 go_enter Try.func26, Try.ntmps26
 go_wp2_with fail
 refine (state_nil _).mono ?_
 rintro e' w1 ⟨rfl, hb⟩
 have BX_ := ab.mk (af BX.out hb)
 have HB_ := ab.mk (ak HB.out hb)
 clear BX HB hb
 go_wp2_with fail
 have b0 := ah (ah (aC w1 (.cells #[.int .i64 0, .bool false, .int .u8 0, .int .u8 0, .int .u8 0, .bool false] 32)) (.cells #[.int .u8 0, .int .u8 0, .int .u8 0, .int .u16 0, .bool false, .bool false] 34)) (.cells #[.int .u8 0, .int .u8 0, .int .u8 0, .int .u16 0, .bool false, .bool false] 34)
 have b1 := ah (blk_at2 w1 (.cells #[.int .i64 0, .bool false, .int .u8 0, .int .u8 0, .int .u8 0, .bool false] 32) (.cells #[.int .u8 0, .int .u8 0, .int .u8 0, .int .u16 0, .bool false, .bool false] 34)) (.cells #[.int .u8 0, .int .u8 0, .int .u8 0, .int .u16 0, .bool false, .bool false] 34)
 have b2 := blk_at3 w1 (.cells #[.int .i64 0, .bool false, .int .u8 0, .int .u8 0, .int .u8 0, .bool false] 32) (.cells #[.int .u8 0, .int .u8 0, .int .u8 0, .int .u16 0, .bool false, .bool false] 34) (.cells #[.int .u8 0, .int .u8 0, .int .u8 0, .int .u16 0, .bool false, .bool false] 34)
 have hb := ac (ac (ac (Below.refl w1.heap.size w1) (.cells #[.int .i64 0, .bool false, .int .u8 0, .int .u8 0, .int .u8 0, .bool false] 32)) (.cells #[.int .u8 0, .int .u8 0, .int .u8 0, .int .u16 0, .bool false, .bool false] 34)) (.cells #[.int .u8 0, .int .u8 0, .int .u8 0, .int .u16 0, .bool false, .bool false] 34)
 generalize ((w1.alloc (.cells #[.int .i64 0, .bool false, .int .u8 0, .int .u8 0, .int .u8 0, .bool false] 32)).alloc (.cells #[.int .u8 0, .int .u8 0, .int .u8 0, .int .u16 0, .bool false, .bool false] 34)).alloc (.cells #[.int .u8 0, .int .u8 0, .int .u8 0, .int .u16 0, .bool false, .bool false] 34) = w2 at b0 b1 b2 hb ⊢
 have BX := ab.mk (af BX_.out hb)
 have HB := ab.mk (ak HB_.out hb)
 have B0 := ab.mk b0
 have B1 := ab.mk b1
 have B2 := ab.mk b2
 clear BX_ HB_ hb b0 b1 b2
 have HD := ab.mk (aj (Below.refl w2.heap.size w2))
 have hcn : ∀ W : World, (convert 22 9 (.slice none 0 0)).run Try.prog W = .ok (.string ⟨#[]⟩) W := fun W => by kernel_rfl
 refine start_ (n := 26) (S := fun w' => w'.cell? ⟨w1.heap.size, 0, none⟩ = some (.int .i64 0) ∧ w'.cell? ⟨w1.heap.size, 1, none⟩ = some (.bool false) ∧ w'.cell? ⟨w1.heap.size, 2, none⟩ = some (.int .u8 0) ∧ w'.cell? ⟨w1.heap.size, 3, none⟩ = some (.int .u8 0) ∧ w'.cell? ⟨w1.heap.size, 4, none⟩ = some (.int .u8 0) ∧ w'.cell? ⟨w1.heap.size, 5, none⟩ = some (.bool false) ∧ w'.cell? ⟨w1.heap.size + 1, 0, none⟩ = some (.int .u8 0) ∧ w'.cell? ⟨w1.heap.size + 1, 1, none⟩ = some (.int .u8 0) ∧ w'.cell? ⟨w1.heap.size + 1, 2, none⟩ = some (.int .u8 0) ∧ w'.cell? ⟨w1.heap.size + 1, 3, none⟩ = some (.int .u16 0) ∧ w'.cell? ⟨w1.heap.size + 1, 4, none⟩ = some (.bool false) ∧ w'.cell? ⟨w1.heap.size + 1, 5, none⟩ = some (.bool false) ∧ w'.cell? ⟨w1.heap.size + 2, 0, none⟩ = some (.int .u8 0) ∧ w'.cell? ⟨w1.heap.size + 2, 1, none⟩ = some (.int .u8 0) ∧ w'.cell? ⟨w1.heap.size + 2, 2, none⟩ = some (.int .u8 0) ∧ w'.cell? ⟨w1.heap.size + 2, 3, none⟩ = some (.int .u16 0) ∧ w'.cell? ⟨w1.heap.size + 2, 4, none⟩ = some (.bool false) ∧ w'.cell? ⟨w1.heap.size + 2, 5, none⟩ = some (.bool false) ∧ w'.cell? ⟨w.heap.size, 12, none⟩ = some (.slice none 0 0) ∧ w'.cell? ⟨w.heap.size, 13, none⟩ = some (.int .i64 0) ∧ w'.cell? ⟨w.heap.size, 14, none⟩ = some (.bool false) ∧ w'.cell? ⟨w.heap.size, 15, none⟩ = some (.int .u8 0) ∧ w'.cell? ⟨w.heap.size, 16, none⟩ = some (.int .u8 0) ∧ w'.cell? ⟨w.heap.size, 17, none⟩ = some (.int .u8 0) ∧ w'.cell? ⟨w.heap.size, 18, none⟩ = some (.bool false) ∧ w'.cell? ⟨w.heap.size, 19, none⟩ = some (.int .u8 0) ∧ w'.cell? ⟨w.heap.size, 20, none⟩ = some (.int .u8 0) ∧ w'.cell? ⟨w.heap.size, 21, none⟩ = some (.int .u8 0) ∧ w'.cell? ⟨w.heap.size, 22, none⟩ = some (.int .u16 0) ∧ w'.cell? ⟨w.heap.size, 23, none⟩ = some (.bool false) ∧ w'.cell? ⟨w.heap.size, 24, none⟩ = some (.bool false) ∧ w'.cell? ⟨w.heap.size, 25, none⟩ = some (.int .u8 0) ∧ w'.cell? ⟨w.heap.size, 26, none⟩ = some (.int .u8 0) ∧ w'.cell? ⟨w.heap.size, 27, none⟩ = some (.int .u8 0) ∧ w'.cell? ⟨w.heap.size, 28, none⟩ = some (.int .u16 0) ∧ w'.cell? ⟨w.heap.size, 29, none⟩ = some (.bool false) ∧ w'.cell? ⟨w.heap.size, 30, none⟩ = some (.bool false)) (ds := []) #[false, false, false, false, false, false, false, false, false, false, false, false, false, false, false, false, false, false, false, false, false, false, false, false, false, false] (by kernel_rfl) rfl rfl ⟨(aa (af B0.out HD.out) 0).trans rfl, (aa (af B0.out HD.out) 1).trans rfl, (aa (af B0.out HD.out) 2).trans rfl, (aa (af B0.out HD.out) 3).trans rfl, (aa (af B0.out HD.out) 4).trans rfl, (aa (af B0.out HD.out) 5).trans rfl, (aa (af B1.out HD.out) 0).trans rfl, (aa (af B1.out HD.out) 1).trans rfl, (aa (af B1.out HD.out) 2).trans rfl, (aa (af B1.out HD.out) 3).trans rfl, (aa (af B1.out HD.out) 4).trans rfl, (aa (af B1.out HD.out) 5).trans rfl, (aa (af B2.out HD.out) 0).trans rfl, (aa (af B2.out HD.out) 1).trans rfl, (aa (af B2.out HD.out) 2).trans rfl, (aa (af B2.out HD.out) 3).trans rfl, (aa (af B2.out HD.out) 4).trans rfl, (aa (af B2.out HD.out) 5).trans rfl, (aa (af BX.out HD.out) 12).trans rfl, (aa (af BX.out HD.out) 13).trans rfl, (aa (af BX.out HD.out) 14).trans rfl, (aa (af BX.out HD.out) 15).trans rfl, (aa (af BX.out HD.out) 16).trans rfl, (aa (af BX.out HD.out) 17).trans rfl, (aa (af BX.out HD.out) 18).trans rfl, (aa (af BX.out HD.out) 19).trans rfl, (aa (af BX.out HD.out) 20).trans rfl, (aa (af BX.out HD.out) 21).trans rfl, (aa (af BX.out HD.out) 22).trans rfl, (aa (af BX.out HD.out) 23).trans rfl, (aa (af BX.out HD.out) 24).trans rfl, (aa (af BX.out HD.out) 25).trans rfl, (aa (af BX.out HD.out) 26).trans rfl, (aa (af BX.out HD.out) 27).trans rfl, (aa (af BX.out HD.out) 28).trans rfl, (aa (af BX.out HD.out) 29).trans rfl, (aa (af BX.out HD.out) 30).trans rfl⟩ (fun hHeld => ?_)
 refine with_tabW alike2.tab alike2.bits (fun HT_ HW_ => ?_)
 refine bn (i := 1) (N := some 15) (v := ?_) (a' := ?_) #[false, true, false, false, false, false, false, false, false, false, false, false, false, false, false, false, false, false, false, false, false, false, false, false, false, false] rfl rfl (ba HT_.out (by kernel_rfl)) (fun _ _ _ h => h) (Or.inl ⟨by rfl, ?_⟩) ?_ ?_
 rotate_left
 ·intro w'
  go_simp
  with_reducible rfl
 rotate_left
 ·simp only [Act.put, List.setIfInBounds_toArray, List.set_cons_zero, List.set_cons_succ, aQ, aT]
  rfl
 refine bT (i := 0) (N := some 14) (v := ?_) (a' := ?_) #[true, true, false, false, false, false, false, false, false, false, false, false, false, false, false, false, false, false, false, false, false, false, false, false, false, false] rfl rfl (bg HT_.out HW_.out (by kernel_rfl)) (fun _ _ _ h => h) (Or.inl ⟨by rfl, ?_⟩) hHeld ?_ ?_
 rotate_left
 ·rintro w' ⟨s0, s1, s2, s3, s4, s5, s6, s7, s8, s9, s10, s11, s12, s13, s14, s15, s16, s17, s18, s19, s20, s21, s22, s23, s24, s25, s26, s27, s28, s29, s30, s31, s32, s33, s34, s35, s36⟩
  go_simp
  with_reducible rfl
 rotate_left
 ·simp only [Act.put, List.setIfInBounds_toArray, List.set_cons_zero, List.set_cons_succ, aQ, aT]
  rfl
 refine bT (i := 2) (N := some 16) (v := ?_) (a' := ?_) #[true, true, true, false, false, false, false, false, false, false, false, false, false, false, false, false, false, false, false, false, false, false, false, false, false, false] rfl rfl (bg HT_.out HW_.out (by kernel_rfl)) (fun _ _ _ h => h) (Or.inl ⟨by rfl, ?_⟩) hHeld ?_ ?_
 rotate_left
 ·rintro w' ⟨s0, s1, s2, s3, s4, s5, s6, s7, s8, s9, s10, s11, s12, s13, s14, s15, s16, s17, s18, s19, s20, s21, s22, s23, s24, s25, s26, s27, s28, s29, s30, s31, s32, s33, s34, s35, s36⟩
  go_simp
  with_reducible rfl
 rotate_left
 ·simp only [Act.put, List.setIfInBounds_toArray, List.set_cons_zero, List.set_cons_succ, aQ, aT]
  rfl
 refine bn (i := 3) (N := some 17) (v := ?_) (a' := ?_) #[true, true, true, true, false, false, false, false, false, false, false, false, false, false, false, false, false, false, false, false, false, false, false, false, false, false] rfl rfl (ba HT_.out (by kernel_rfl)) (fun _ _ _ h => h) (Or.inl ⟨by rfl, ?_⟩) ?_ ?_
 rotate_left
 ·intro w'
  go_simp
  with_reducible rfl
 rotate_left
 ·simp only [Act.put, List.setIfInBounds_toArray, List.set_cons_zero, List.set_cons_succ, aQ, aT]
  rfl
 refine bn (i := 4) (N := some 18) (v := ?_) (a' := ?_) #[true, true, true, true, true, false, false, false, false, false, false, false, false, false, false, false, false, false, false, false, false, false, false, false, false, false] rfl rfl (ba HT_.out (by kernel_rfl)) (fun _ _ _ h => h) (Or.inl ⟨by rfl, ?_⟩) ?_ ?_
 rotate_left
 ·intro w'
  go_simp
  with_reducible rfl
 rotate_left
 ·simp only [Act.put, List.setIfInBounds_toArray, List.set_cons_zero, List.set_cons_succ, aQ, aT]
  rfl
 refine bn (i := 6) (N := some 20) (v := ?_) (a' := ?_) #[true, true, true, true, true, false, true, false, false, false, false, false, false, false, false, false, false, false, false, false, false, false, false, false, false, false] rfl rfl (ba HT_.out (by kernel_rfl)) (fun _ _ _ h => h) (Or.inl ⟨by rfl, ?_⟩) ?_ ?_
 rotate_left
 ·intro w'
  go_simp
  with_reducible rfl
 rotate_left
 ·simp only [Act.put, List.setIfInBounds_toArray, List.set_cons_zero, List.set_cons_succ, aQ, aT]
  rfl
 refine bT (i := 5) (N := some 19) (v := ?_) (a' := ?_) #[true, true, true, true, true, true, true, false, false, false, false, false, false, false, false, false, false, false, false, false, false, false, false, false, false, false] rfl rfl (bg HT_.out HW_.out (by kernel_rfl)) (fun _ _ _ h => h) (Or.inl ⟨by rfl, ?_⟩) hHeld ?_ ?_
 rotate_left
 ·rintro w' ⟨s0, s1, s2, s3, s4, s5, s6, s7, s8, s9, s10, s11, s12, s13, s14, s15, s16, s17, s18, s19, s20, s21, s22, s23, s24, s25, s26, s27, s28, s29, s30, s31, s32, s33, s34, s35, s36⟩
  go_simp
  with_reducible rfl
 rotate_left
 ·simp only [Act.put, List.setIfInBounds_toArray, List.set_cons_zero, List.set_cons_succ, aQ, aT]
  rfl
 refine bT (i := 7) (N := some 21) (v := ?_) (a' := ?_) #[true, true, true, true, true, true, true, true, false, false, false, false, false, false, false, false, false, false, false, false, false, false, false, false, false, false] rfl rfl (bg HT_.out HW_.out (by kernel_rfl)) (fun _ _ _ h => h) (Or.inl ⟨by rfl, ?_⟩) hHeld ?_ ?_
 rotate_left
 ·rintro w' ⟨s0, s1, s2, s3, s4, s5, s6, s7, s8, s9, s10, s11, s12, s13, s14, s15, s16, s17, s18, s19, s20, s21, s22, s23, s24, s25, s26, s27, s28, s29, s30, s31, s32, s33, s34, s35, s36⟩
  go_simp
  with_reducible rfl
 rotate_left
 ·simp only [Act.put, List.setIfInBounds_toArray, List.set_cons_zero, List.set_cons_succ, aQ, aT]
  rfl
 refine bn (i := 8) (N := some 22) (v := ?_) (a' := ?_) #[true, true, true, true, true, true, true, true, true, false, false, false, false, false, false, false, false, false, false, false, false, false, false, false, false, false] rfl rfl (ba HT_.out (by kernel_rfl)) (fun _ _ _ h => h) (Or.inl ⟨by rfl, ?_⟩) ?_ ?_
 rotate_left
 ·intro w'
  go_simp
  with_reducible rfl
 rotate_left
 ·simp only [Act.put, List.setIfInBounds_toArray, List.set_cons_zero, List.set_cons_succ, aQ, aT]
  rfl
 refine bn (i := 9) (N := some 23) (v := ?_) (a' := ?_) #[true, true, true, true, true, true, true, true, true, true, false, false, false, false, false, false, false, false, false, false, false, false, false, false, false, false] rfl rfl (ba HT_.out (by kernel_rfl)) (fun _ _ _ h => h) (Or.inl ⟨by rfl, ?_⟩) ?_ ?_
 rotate_left
 ·intro w'
  go_simp
  with_reducible rfl
 rotate_left
 ·simp only [Act.put, List.setIfInBounds_toArray, List.set_cons_zero, List.set_cons_succ, aQ, aT]
  rfl
 refine bn (i := 10) (N := some 24) (v := ?_) (a' := ?_) #[true, true, true, true, true, true, true, true, true, true, true, false, false, false, false, false, false, false, false, false, false, false, false, false, false, false] rfl rfl (ba HT_.out (by kernel_rfl)) (fun _ _ _ h => h) (Or.inl ⟨by rfl, ?_⟩) ?_ ?_
 rotate_left
 ·intro w'
  go_simp
  with_reducible rfl
 rotate_left
 ·simp only [Act.put, List.setIfInBounds_toArray, List.set_cons_zero, List.set_cons_succ, aQ, aT]
  rfl
 refine bn (i := 12) (N := some 26) (v := ?_) (a' := ?_) #[true, true, true, true, true, true, true, true, true, true, true, false, true, false, false, false, false, false, false, false, false, false, false, false, false, false] rfl rfl (ba HT_.out (by kernel_rfl)) (fun _ _ _ h => h) (Or.inl ⟨by rfl, ?_⟩) ?_ ?_
 rotate_left
 ·intro w'
  go_simp
  with_reducible rfl
 rotate_left
 ·simp only [Act.put, List.setIfInBounds_toArray, List.set_cons_zero, List.set_cons_succ, aQ, aT]
  rfl
 refine bT (i := 11) (N := some 25) (v := ?_) (a' := ?_) #[true, true, true, true, true, true, true, true, true, true, true, true, true, false, false, false, false, false, false, false, false, false, false, false, false, false] rfl rfl (bg HT_.out HW_.out (by kernel_rfl)) (fun _ _ _ h => h) (Or.inl ⟨by rfl, ?_⟩) hHeld ?_ ?_
 rotate_left
 ·rintro w' ⟨s0, s1, s2, s3, s4, s5, s6, s7, s8, s9, s10, s11, s12, s13, s14, s15, s16, s17, s18, s19, s20, s21, s22, s23, s24, s25, s26, s27, s28, s29, s30, s31, s32, s33, s34, s35, s36⟩
  go_simp
  with_reducible rfl
 rotate_left
 ·simp only [Act.put, List.setIfInBounds_toArray, List.set_cons_zero, List.set_cons_succ, aQ, aT]
  rfl
 refine bT (i := 13) (N := some 27) (v := ?_) (a' := ?_) #[true, true, true, true, true, true, true, true, true, true, true, true, true, true, false, false, false, false, false, false, false, false, false, false, false, false] rfl rfl (bg HT_.out HW_.out (by kernel_rfl)) (fun _ _ _ h => h) (Or.inl ⟨by rfl, ?_⟩) hHeld ?_ ?_
 rotate_left
 ·rintro w' ⟨s0, s1, s2, s3, s4, s5, s6, s7, s8, s9, s10, s11, s12, s13, s14, s15, s16, s17, s18, s19, s20, s21, s22, s23, s24, s25, s26, s27, s28, s29, s30, s31, s32, s33, s34, s35, s36⟩
  go_simp
  with_reducible rfl
 rotate_left
 ·simp only [Act.put, List.setIfInBounds_toArray, List.set_cons_zero, List.set_cons_succ, aQ, aT]
  rfl
 refine bn (i := 14) (N := some 28) (v := ?_) (a' := ?_) #[true, true, true, true, true, true, true, true, true, true, true, true, true, true, true, false, false, false, false, false, false, false, false, false, false, false] rfl rfl (ba HT_.out (by kernel_rfl)) (fun _ _ _ h => h) (Or.inl ⟨by rfl, ?_⟩) ?_ ?_
 rotate_left
 ·intro w'
  go_simp
  with_reducible rfl
 rotate_left
 ·simp only [Act.put, List.setIfInBounds_toArray, List.set_cons_zero, List.set_cons_succ, aQ, aT]
  rfl
 refine bn (i := 15) (N := some 29) (v := ?_) (a' := ?_) #[true, true, true, true, true, true, true, true, true, true, true, true, true, true, true, true, false, false, false, false, false, false, false, false, false, false] rfl rfl (ba HT_.out (by kernel_rfl)) (fun _ _ _ h => h) (Or.inl ⟨by rfl, ?_⟩) ?_ ?_
 rotate_left
 ·intro w'
  go_simp
  with_reducible rfl
 rotate_left
 ·simp only [Act.put, List.setIfInBounds_toArray, List.set_cons_zero, List.set_cons_succ, aQ, aT]
  rfl
 refine bn (i := 16) (N := some 30) (v := ?_) (a' := ?_) #[true, true, true, true, true, true, true, true, true, true, true, true, true, true, true, true, true, false, false, false, false, false, false, false, false, false] rfl rfl (ba HT_.out (by kernel_rfl)) (fun _ _ _ h => h) (Or.inl ⟨by rfl, ?_⟩) ?_ ?_
 rotate_left
 ·intro w'
  go_simp
  with_reducible rfl
 rotate_left
 ·simp only [Act.put, List.setIfInBounds_toArray, List.set_cons_zero, List.set_cons_succ, aQ, aT]
  rfl
 refine bn (i := 17) (N := some 31) (v := ?_) (a' := ?_) #[true, true, true, true, true, true, true, true, true, true, true, true, true, true, true, true, true, true, false, false, false, false, false, false, false, false] rfl rfl (ba HT_.out (by kernel_rfl)) (fun _ _ _ h => h) (Or.inl ⟨by rfl, ?_⟩) ?_ ?_
 rotate_left
 ·intro w'
  go_simp
  with_reducible rfl
 rotate_left
 ·simp only [Act.put, List.setIfInBounds_toArray, List.set_cons_zero, List.set_cons_succ, aQ, aT]
  rfl
 refine bn (i := 20) (N := some 34) (v := ?_) (a' := ?_) #[true, true, true, true, true, true, true, true, true, true, true, true, true, true, true, true, true, true, false, false, true, false, false, false, false, false] rfl rfl (ba HT_.out (by kernel_rfl)) (fun _ _ _ h => h) (Or.inl ⟨by rfl, ?_⟩) ?_ ?_
 rotate_left
 ·intro w'
  go_simp
  with_reducible rfl
 rotate_left
 ·simp only [Act.put, List.setIfInBounds_toArray, List.set_cons_zero, List.set_cons_succ, aQ, aT]
  rfl
 refine bT (i := 21) (N := some 35) (v := ?_) (a' := ?_) #[true, true, true, true, true, true, true, true, true, true, true, true, true, true, true, true, true, true, false, false, true, true, false, false, false, false] rfl rfl (bg HT_.out HW_.out (by kernel_rfl)) (fun _ _ _ h => h) (Or.inl ⟨by rfl, ?_⟩) hHeld ?_ ?_
 rotate_left
 ·rintro w' ⟨s0, s1, s2, s3, s4, s5, s6, s7, s8, s9, s10, s11, s12, s13, s14, s15, s16, s17, s18, s19, s20, s21, s22, s23, s24, s25, s26, s27, s28, s29, s30, s31, s32, s33, s34, s35, s36⟩
  go_simp
  with_reducible rfl
 rotate_left
 ·simp only [Act.put, List.setIfInBounds_toArray, List.set_cons_zero, List.set_cons_succ, aQ, aT]
  rfl
 refine bT (i := 22) (N := some 36) (v := ?_) (a' := ?_) #[true, true, true, true, true, true, true, true, true, true, true, true, true, true, true, true, true, true, false, false, true, true, true, false, false, false] rfl rfl (bg HT_.out HW_.out (by kernel_rfl)) (fun _ _ _ h => h) (Or.inl ⟨by rfl, ?_⟩) hHeld ?_ ?_
 rotate_left
 ·rintro w' ⟨s0, s1, s2, s3, s4, s5, s6, s7, s8, s9, s10, s11, s12, s13, s14, s15, s16, s17, s18, s19, s20, s21, s22, s23, s24, s25, s26, s27, s28, s29, s30, s31, s32, s33, s34, s35, s36⟩
  go_simp
  with_reducible rfl
 rotate_left
 ·simp only [Act.put, List.setIfInBounds_toArray, List.set_cons_zero, List.set_cons_succ, aQ, aT]
  rfl
 refine one_ (i := 18) (N := some 32) #[true, true, true, true, true, true, true, true, true, true, true, true, true, true, true, true, true, true, true, false, true, true, true, false, false, false] rfl rfl (one_of HT_.out (by kernel_rfl)) (by decide) (fun K hK => ?_)
 refine goes_ Try.func15 (by kernel_rfl) rfl #[.pointer none] (by rfl) rfl rfl (by (try simp only [List.map_toArray, List.map_cons, List.map_nil]); first | done | rfl) ?_
 refine (ram_nil _).mono ?_
 rintro e' w3 ⟨rfl, hb⟩
 have HX := ab.mk (ak HD.out hb)
 clear hb
 refine ⟨_, rfl, ?_⟩
 refine hK.out _ _ ⟨(aa (af B0.out HX.out) 0).trans rfl, (aa (af B0.out HX.out) 1).trans rfl, (aa (af B0.out HX.out) 2).trans rfl, (aa (af B0.out HX.out) 3).trans rfl, (aa (af B0.out HX.out) 4).trans rfl, (aa (af B0.out HX.out) 5).trans rfl, (aa (af B1.out HX.out) 0).trans rfl, (aa (af B1.out HX.out) 1).trans rfl, (aa (af B1.out HX.out) 2).trans rfl, (aa (af B1.out HX.out) 3).trans rfl, (aa (af B1.out HX.out) 4).trans rfl, (aa (af B1.out HX.out) 5).trans rfl, (aa (af B2.out HX.out) 0).trans rfl, (aa (af B2.out HX.out) 1).trans rfl, (aa (af B2.out HX.out) 2).trans rfl, (aa (af B2.out HX.out) 3).trans rfl, (aa (af B2.out HX.out) 4).trans rfl, (aa (af B2.out HX.out) 5).trans rfl, (aa (af BX.out HX.out) 12).trans rfl, (aa (af BX.out HX.out) 13).trans rfl, (aa (af BX.out HX.out) 14).trans rfl, (aa (af BX.out HX.out) 15).trans rfl, (aa (af BX.out HX.out) 16).trans rfl, (aa (af BX.out HX.out) 17).trans rfl, (aa (af BX.out HX.out) 18).trans rfl, (aa (af BX.out HX.out) 19).trans rfl, (aa (af BX.out HX.out) 20).trans rfl, (aa (af BX.out HX.out) 21).trans rfl, (aa (af BX.out HX.out) 22).trans rfl, (aa (af BX.out HX.out) 23).trans rfl, (aa (af BX.out HX.out) 24).trans rfl, (aa (af BX.out HX.out) 25).trans rfl, (aa (af BX.out HX.out) 26).trans rfl, (aa (af BX.out HX.out) 27).trans rfl, (aa (af BX.out HX.out) 28).trans rfl, (aa (af BX.out HX.out) 29).trans rfl, (aa (af BX.out HX.out) 30).trans rfl⟩ (fun hHeld => ?_)
 clear hK K
 refine norm_ (a' := ?_) ?_ ?_
 rotate_left
 ·show Act.put _ (some 32) _ = _
  simp only [Act.put, List.setIfInBounds_toArray, List.set_cons_zero, List.set_cons_succ, aQ, aT]
  rfl
 refine one_ (i := 19) (N := some 33) #[true, true, true, true, true, true, true, true, true, true, true, true, true, true, true, true, true, true, true, true, true, true, true, false, false, false] rfl rfl (one_of HT_.out (by kernel_rfl)) (by decide) (fun K hK => ?_)
 refine event_step (v := .string ⟨#[]⟩) (by rfl) (by go_simp; rfl) ?_
 refine hK.out _ _ ⟨(aa (af B0.out HX.out) 0).trans rfl, (aa (af B0.out HX.out) 1).trans rfl, (aa (af B0.out HX.out) 2).trans rfl, (aa (af B0.out HX.out) 3).trans rfl, (aa (af B0.out HX.out) 4).trans rfl, (aa (af B0.out HX.out) 5).trans rfl, (aa (af B1.out HX.out) 0).trans rfl, (aa (af B1.out HX.out) 1).trans rfl, (aa (af B1.out HX.out) 2).trans rfl, (aa (af B1.out HX.out) 3).trans rfl, (aa (af B1.out HX.out) 4).trans rfl, (aa (af B1.out HX.out) 5).trans rfl, (aa (af B2.out HX.out) 0).trans rfl, (aa (af B2.out HX.out) 1).trans rfl, (aa (af B2.out HX.out) 2).trans rfl, (aa (af B2.out HX.out) 3).trans rfl, (aa (af B2.out HX.out) 4).trans rfl, (aa (af B2.out HX.out) 5).trans rfl, (aa (af BX.out HX.out) 12).trans rfl, (aa (af BX.out HX.out) 13).trans rfl, (aa (af BX.out HX.out) 14).trans rfl, (aa (af BX.out HX.out) 15).trans rfl, (aa (af BX.out HX.out) 16).trans rfl, (aa (af BX.out HX.out) 17).trans rfl, (aa (af BX.out HX.out) 18).trans rfl, (aa (af BX.out HX.out) 19).trans rfl, (aa (af BX.out HX.out) 20).trans rfl, (aa (af BX.out HX.out) 21).trans rfl, (aa (af BX.out HX.out) 22).trans rfl, (aa (af BX.out HX.out) 23).trans rfl, (aa (af BX.out HX.out) 24).trans rfl, (aa (af BX.out HX.out) 25).trans rfl, (aa (af BX.out HX.out) 26).trans rfl, (aa (af BX.out HX.out) 27).trans rfl, (aa (af BX.out HX.out) 28).trans rfl, (aa (af BX.out HX.out) 29).trans rfl, (aa (af BX.out HX.out) 30).trans rfl⟩ (fun hHeld => ?_)
 clear hK K
 refine norm_ (a' := ?_) ?_ ?_
 rotate_left
 ·show Act.put _ (some 33) _ = _
  simp only [Act.put, List.setIfInBounds_toArray, List.set_cons_zero, List.set_cons_succ, aQ, aT]
  rfl
 refine bn (i := 23) (N := some 37) (v := ?_) (a' := ?_) #[true, true, true, true, true, true, true, true, true, true, true, true, true, true, true, true, true, true, true, true, true, true, true, true, false, false] rfl rfl (ba HT_.out (by kernel_rfl)) (fun _ _ _ h => h) (Or.inl ⟨by rfl, ?_⟩) ?_ ?_
 rotate_left
 ·intro w'
  go_simp
  with_reducible rfl
 rotate_left
 ·simp only [Act.put, List.setIfInBounds_toArray, List.set_cons_zero, List.set_cons_succ, aQ, aT]
  rfl
 refine bn (i := 24) (N := some 38) (v := ?_) (a' := ?_) #[true, true, true, true, true, true, true, true, true, true, true, true, true, true, true, true, true, true, true, true, true, true, true, true, true, false] rfl rfl (ba HT_.out (by kernel_rfl)) (fun _ _ _ h => h) (Or.inl ⟨by rfl, ?_⟩) ?_ ?_
 rotate_left
 ·intro w'
  go_simp
  with_reducible rfl
 rotate_left
 ·simp only [Act.put, List.setIfInBounds_toArray, List.set_cons_zero, List.set_cons_succ, aQ, aT]
  rfl
 refine bn (i := 25) (N := some 4) (v := ?_) (a' := ?_) #[true, true, true, true, true, true, true, true, true, true, true, true, true, true, true, true, true, true, true, true, true, true, true, true, true, true] rfl rfl (ba HT_.out (by kernel_rfl)) (fun _ _ _ h => h) (Or.inl ⟨by rfl, ?_⟩) ?_ ?_
 rotate_left
 ·intro w'
  go_simp
  with_reducible rfl
 rotate_left
 ·simp only [Act.put, List.setIfInBounds_toArray, List.set_cons_zero, List.set_cons_succ, aQ, aT]
  rfl
 refine done_ (done_of HT_.out (by kernel_rfl)) ?_
 go_wp2
 go_returns
 exact ⟨rfl, ak HB.out HX.out⟩
end Go.Proofs.Ytmjjojbedllmgaa.Hand
end
namespace Go.Proofs.Ytmjjojbedllmgaa.Hand
theorem blk_range {w : World} {b : Nat} {t : TypeId} {l : List Value} (h : w.heap[b]? = some (.cells l.toArray t (0, 0))) : w.rangeAt b 0 l := fun j x hx => by
 rw [aa h (0 + j), Nat.zero_add]
 simpa using hx
theorem rz_read (ad : Int) : Puts 14 #[.agg #[.bool false, .string ⟨#[]⟩, .int .u8 0, .int .i64 0, .bool false, .bool false, .bool false, .int .i64 0, .int .i64 0, .int .u8 0, .int .u16 0, .slice none 0 0, .slice none 0 0, .int .i64 0, .bool false, .int .u8 0, .int .u8 0, .int .u8 0, .bool false, .int .u8 0, .int .u8 0, .int .u8 0, .int .u16 0, .bool false, .bool false, .int .u8 0, .int .u8 0, .int .u8 0, .int .u16 0, .bool false, .bool false, .int .u8 0], .int .u16 ad] (.int .u8 255) := by
 intro w
 go_enter Try.func14, Try.ntmps14
 go_wp2
 go_returns
 exact ⟨rfl, by go_grown⟩
theorem rz_save : Puts 23 #[.agg #[.bool false, .string ⟨#[]⟩, .int .u8 0, .int .i64 0, .bool false, .bool false, .bool false, .int .i64 0, .int .i64 0, .int .u8 0, .int .u16 0, .slice none 0 0, .slice none 0 0, .int .i64 0, .bool false, .int .u8 0, .int .u8 0, .int .u8 0, .bool false, .int .u8 0, .int .u8 0, .int .u8 0, .int .u16 0, .bool false, .bool false, .int .u8 0, .int .u8 0, .int .u8 0, .int .u16 0, .bool false, .bool false, .int .u8 0]] (.slice none 0 0) := by
 intro w
 go_enter Try.func23, Try.ntmps23
 go_wp2
 go_ret
 exact ⟨rfl, by go_grown⟩
theorem rz_write (ad v : Int) : Puts 19 #[.agg #[.bool false, .string ⟨#[]⟩, .int .u8 0, .int .i64 0, .bool false, .bool false, .bool false, .int .i64 0, .int .i64 0, .int .u8 0, .int .u16 0, .slice none 0 0, .slice none 0 0, .int .i64 0, .bool false, .int .u8 0, .int .u8 0, .int .u8 0, .bool false, .int .u8 0, .int .u8 0, .int .u8 0, .int .u16 0, .bool false, .bool false, .int .u8 0, .int .u8 0, .int .u8 0, .int .u16 0, .bool false, .bool false, .int .u8 0], .int .u16 ad, .int .u8 v] (.agg #[.bool false, .string ⟨#[]⟩, .int .u8 0, .int .i64 0, .bool false, .bool false, .bool false, .int .i64 0, .int .i64 0, .int .u8 0, .int .u16 0, .slice none 0 0, .slice none 0 0, .int .i64 0, .bool false, .int .u8 0, .int .u8 0, .int .u8 0, .bool false, .int .u8 0, .int .u8 0, .int .u8 0, .int .u16 0, .bool false, .bool false, .int .u8 0, .int .u8 0, .int .u8 0, .int .u16 0, .bool false, .bool false, .int .u8 0]) := by
 intro w
 have BZ := ab.mk (blk_range (ah (aC w (.cells #[.bool false, .string ⟨#[]⟩, .int .u8 0, .int .i64 0, .bool false, .bool false, .bool false, .int .i64 0, .int .i64 0, .int .u8 0, .int .u16 0, .slice none 0 0, .slice none 0 0, .int .i64 0, .bool false, .int .u8 0, .int .u8 0, .int .u8 0, .bool false, .int .u8 0, .int .u8 0, .int .u8 0, .int .u16 0, .bool false, .bool false, .int .u8 0, .int .u8 0, .int .u8 0, .int .u16 0, .bool false, .bool false, .int .u8 0] 36)) (.cells #[.bool false, .string ⟨#[]⟩, .int .u8 0, .int .i64 0, .bool false, .bool false, .bool false, .int .i64 0, .int .i64 0, .int .u8 0, .int .u16 0, .slice none 0 0, .slice none 0 0, .int .i64 0, .bool false, .int .u8 0, .int .u8 0, .int .u8 0, .bool false, .int .u8 0, .int .u8 0, .int .u8 0, .int .u16 0, .bool false, .bool false, .int .u8 0, .int .u8 0, .int .u8 0, .int .u16 0, .bool false, .bool false, .int .u8 0] 36)))
 have BR := ab.mk (bF w (.cells #[.bool false, .string ⟨#[]⟩, .int .u8 0, .int .i64 0, .bool false, .bool false, .bool false, .int .i64 0, .int .i64 0, .int .u8 0, .int .u16 0, .slice none 0 0, .slice none 0 0, .int .i64 0, .bool false, .int .u8 0, .int .u8 0, .int .u8 0, .bool false, .int .u8 0, .int .u8 0, .int .u8 0, .int .u16 0, .bool false, .bool false, .int .u8 0, .int .u8 0, .int .u8 0, .int .u16 0, .bool false, .bool false, .int .u8 0] 36) [.bool false, .string ⟨#[]⟩, .int .u8 0, .int .i64 0, .bool false, .bool false, .bool false, .int .i64 0, .int .i64 0, .int .u8 0, .int .u16 0, .slice none 0 0, .slice none 0 0, .int .i64 0, .bool false, .int .u8 0, .int .u8 0, .int .u8 0, .bool false, .int .u8 0, .int .u8 0, .int .u8 0, .int .u16 0, .bool false, .bool false, .int .u8 0, .int .u8 0, .int .u8 0, .int .u16 0, .bool false, .bool false, .int .u8 0] rfl)
 have HB := ab.mk (ac (ac (Below.refl w.heap.size w) (.cells #[.bool false, .string ⟨#[]⟩, .int .u8 0, .int .i64 0, .bool false, .bool false, .bool false, .int .i64 0, .int .i64 0, .int .u8 0, .int .u16 0, .slice none 0 0, .slice none 0 0, .int .i64 0, .bool false, .int .u8 0, .int .u8 0, .int .u8 0, .bool false, .int .u8 0, .int .u8 0, .int .u8 0, .int .u16 0, .bool false, .bool false, .int .u8 0, .int .u8 0, .int .u8 0, .int .u16 0, .bool false, .bool false, .int .u8 0] 36)) (.cells #[.bool false, .string ⟨#[]⟩, .int .u8 0, .int .i64 0, .bool false, .bool false, .bool false, .int .i64 0, .int .i64 0, .int .u8 0, .int .u16 0, .slice none 0 0, .slice none 0 0, .int .i64 0, .bool false, .int .u8 0, .int .u8 0, .int .u8 0, .bool false, .int .u8 0, .int .u8 0, .int .u8 0, .int .u16 0, .bool false, .bool false, .int .u8 0, .int .u8 0, .int .u8 0, .int .u16 0, .bool false, .bool false, .int .u8 0] 36))
 go_enter Try.func19, Try.ntmps19
 go_wp2_with (first
  | ((with_reducible refine ar (N := 12) rfl ?_); refine wpList_load_mid rfl 36 (.tmp 3) rfl w.heap.size 0 rfl [.bool false, .string ⟨#[]⟩, .int .u8 0, .int .i64 0, .bool false, .bool false, .bool false, .int .i64 0, .int .i64 0, .int .u8 0, .int .u16 0, .slice none 0 0, .slice none 0 0, .int .i64 0, .bool false, .int .u8 0, .int .u8 0, .int .u8 0, .bool false, .int .u8 0, .int .u8 0, .int .u8 0, .int .u16 0, .bool false, .bool false, .int .u8 0, .int .u8 0, .int .u8 0, .int .u16 0, .bool false, .bool false, .int .u8 0] _ BZ.out rfl rfl (by kernel_rfl) ?_; simp only [Act.put, List.setIfInBounds_toArray, List.set_cons_zero, List.set_cons_succ])
  | ((with_reducible refine az (t := 36) (p := 6) (v := .tmp 12) rfl ?_); have y0 := ab.mk (BR.out.fillZ [.bool false, .string ⟨#[]⟩, .int .u8 0, .int .i64 0, .bool false, .bool false, .bool false, .int .i64 0, .int .i64 0, .int .u8 0, .int .u16 0, .slice none 0 0, .slice none 0 0, .int .i64 0, .bool false, .int .u8 0, .int .u8 0, .int .u8 0, .bool false, .int .u8 0, .int .u8 0, .int .u8 0, .int .u16 0, .bool false, .bool false, .int .u8 0, .int .u8 0, .int .u8 0, .int .u16 0, .bool false, .bool false, .int .u8 0] rfl); have y1 := ab.mk (ay HB.out (w.heap.size + 1) 0 (by omega) [.bool false, .string ⟨#[]⟩, .int .u8 0, .int .i64 0, .bool false, .bool false, .bool false, .int .i64 0, .int .i64 0, .int .u8 0, .int .u16 0, .slice none 0 0, .slice none 0 0, .int .i64 0, .bool false, .int .u8 0, .int .u8 0, .int .u8 0, .bool false, .int .u8 0, .int .u8 0, .int .u8 0, .int .u16 0, .bool false, .bool false, .int .u8 0, .int .u8 0, .int .u8 0, .int .u16 0, .bool false, .bool false, .int .u8 0]); refine wpList_store_mid rfl 36 (.tmp 6) (.tmp 12) rfl (w.heap.size + 1) 0 (List.toArray [.bool false, .string ⟨#[]⟩, .int .u8 0, .int .i64 0, .bool false, .bool false, .bool false, .int .i64 0, .int .i64 0, .int .u8 0, .int .u16 0, .slice none 0 0, .slice none 0 0, .int .i64 0, .bool false, .int .u8 0, .int .u8 0, .int .u8 0, .bool false, .int .u8 0, .int .u8 0, .int .u8 0, .int .u16 0, .bool false, .bool false, .int .u8 0, .int .u8 0, .int .u8 0, .int .u16 0, .bool false, .bool false, .int .u8 0]) rfl rfl BR.out.there (by kernel_rfl) (by simp [Value.oneCell']) ?_; generalize World.setCells _ (w.heap.size + 1) 0 _ = Y at y0 y1 ⊢; simp only [Act.put, List.setIfInBounds_toArray, List.set_cons_zero, List.set_cons_succ]))
 exact bodyPost_ret (results_cell_row rfl _ _ _ _ _ _ _ rfl y0.out rfl rfl (by kernel_rfl)) rfl ⟨rfl, y1.out⟩
theorem rz_tick : Puts 21 #[.agg #[.bool false, .string ⟨#[]⟩, .int .u8 0, .int .i64 0, .bool false, .bool false, .bool false, .int .i64 0, .int .i64 0, .int .u8 0, .int .u16 0, .slice none 0 0, .slice none 0 0, .int .i64 0, .bool false, .int .u8 0, .int .u8 0, .int .u8 0, .bool false, .int .u8 0, .int .u8 0, .int .u8 0, .int .u16 0, .bool false, .bool false, .int .u8 0, .int .u8 0, .int .u8 0, .int .u16 0, .bool false, .bool false, .int .u8 0]] (.agg #[.bool false, .string ⟨#[]⟩, .int .u8 0, .int .i64 0, .bool false, .bool false, .bool false, .int .i64 0, .int .i64 0, .int .u8 0, .int .u16 0, .slice none 0 0, .slice none 0 0, .int .i64 0, .bool false, .int .u8 0, .int .u8 0, .int .u8 0, .bool false, .int .u8 0, .int .u8 0, .int .u8 0, .int .u16 0, .bool false, .bool false, .int .u8 0, .int .u8 0, .int .u8 0, .int .u16 0, .bool false, .bool false, .int .u8 0]) := by
 intro w
 have BZ := ab.mk (blk_range (ah (aC w (.cells #[.bool false, .string ⟨#[]⟩, .int .u8 0, .int .i64 0, .bool false, .bool false, .bool false, .int .i64 0, .int .i64 0, .int .u8 0, .int .u16 0, .slice none 0 0, .slice none 0 0, .int .i64 0, .bool false, .int .u8 0, .int .u8 0, .int .u8 0, .bool false, .int .u8 0, .int .u8 0, .int .u8 0, .int .u16 0, .bool false, .bool false, .int .u8 0, .int .u8 0, .int .u8 0, .int .u16 0, .bool false, .bool false, .int .u8 0] 36)) (.cells #[.bool false, .string ⟨#[]⟩, .int .u8 0, .int .i64 0, .bool false, .bool false, .bool false, .int .i64 0, .int .i64 0, .int .u8 0, .int .u16 0, .slice none 0 0, .slice none 0 0, .int .i64 0, .bool false, .int .u8 0, .int .u8 0, .int .u8 0, .bool false, .int .u8 0, .int .u8 0, .int .u8 0, .int .u16 0, .bool false, .bool false, .int .u8 0, .int .u8 0, .int .u8 0, .int .u16 0, .bool false, .bool false, .int .u8 0] 36)))
 have BR := ab.mk (bF w (.cells #[.bool false, .string ⟨#[]⟩, .int .u8 0, .int .i64 0, .bool false, .bool false, .bool false, .int .i64 0, .int .i64 0, .int .u8 0, .int .u16 0, .slice none 0 0, .slice none 0 0, .int .i64 0, .bool false, .int .u8 0, .int .u8 0, .int .u8 0, .bool false, .int .u8 0, .int .u8 0, .int .u8 0, .int .u16 0, .bool false, .bool false, .int .u8 0, .int .u8 0, .int .u8 0, .int .u16 0, .bool false, .bool false, .int .u8 0] 36) [.bool false, .string ⟨#[]⟩, .int .u8 0, .int .i64 0, .bool false, .bool false, .bool false, .int .i64 0, .int .i64 0, .int .u8 0, .int .u16 0, .slice none 0 0, .slice none 0 0, .int .i64 0, .bool false, .int .u8 0, .int .u8 0, .int .u8 0, .bool false, .int .u8 0, .int .u8 0, .int .u8 0, .int .u16 0, .bool false, .bool false, .int .u8 0, .int .u8 0, .int .u8 0, .int .u16 0, .bool false, .bool false, .int .u8 0] rfl)
 have HB := ab.mk (ac (ac (Below.refl w.heap.size w) (.cells #[.bool false, .string ⟨#[]⟩, .int .u8 0, .int .i64 0, .bool false, .bool false, .bool false, .int .i64 0, .int .i64 0, .int .u8 0, .int .u16 0, .slice none 0 0, .slice none 0 0, .int .i64 0, .bool false, .int .u8 0, .int .u8 0, .int .u8 0, .bool false, .int .u8 0, .int .u8 0, .int .u8 0, .int .u16 0, .bool false, .bool false, .int .u8 0, .int .u8 0, .int .u8 0, .int .u16 0, .bool false, .bool false, .int .u8 0] 36)) (.cells #[.bool false, .string ⟨#[]⟩, .int .u8 0, .int .i64 0, .bool false, .bool false, .bool false, .int .i64 0, .int .i64 0, .int .u8 0, .int .u16 0, .slice none 0 0, .slice none 0 0, .int .i64 0, .bool false, .int .u8 0, .int .u8 0, .int .u8 0, .bool false, .int .u8 0, .int .u8 0, .int .u8 0, .int .u16 0, .bool false, .bool false, .int .u8 0, .int .u8 0, .int .u8 0, .int .u16 0, .bool false, .bool false, .int .u8 0] 36))
 go_enter Try.func21, Try.ntmps21
 go_wp2_with (first
  | ((with_reducible refine ar (N := 14) rfl ?_); refine wpList_load_mid rfl 36 (.tmp 1) rfl w.heap.size 0 rfl [.bool false, .string ⟨#[]⟩, .int .u8 0, .int .i64 0, .bool false, .bool false, .bool false, .int .i64 0, .int .i64 0, .int .u8 0, .int .u16 0, .slice none 0 0, .slice none 0 0, .int .i64 0, .bool false, .int .u8 0, .int .u8 0, .int .u8 0, .bool false, .int .u8 0, .int .u8 0, .int .u8 0, .int .u16 0, .bool false, .bool false, .int .u8 0, .int .u8 0, .int .u8 0, .int .u16 0, .bool false, .bool false, .int .u8 0] _ BZ.out rfl rfl (by kernel_rfl) ?_; simp only [Act.put, List.setIfInBounds_toArray, List.set_cons_zero, List.set_cons_succ])
  | ((with_reducible refine az (t := 36) (p := 2) (v := .tmp 14) rfl ?_); have y0 := ab.mk (BR.out.fillZ [.bool false, .string ⟨#[]⟩, .int .u8 0, .int .i64 0, .bool false, .bool false, .bool false, .int .i64 0, .int .i64 0, .int .u8 0, .int .u16 0, .slice none 0 0, .slice none 0 0, .int .i64 0, .bool false, .int .u8 0, .int .u8 0, .int .u8 0, .bool false, .int .u8 0, .int .u8 0, .int .u8 0, .int .u16 0, .bool false, .bool false, .int .u8 0, .int .u8 0, .int .u8 0, .int .u16 0, .bool false, .bool false, .int .u8 0] rfl); have y1 := ab.mk (ay HB.out (w.heap.size + 1) 0 (by omega) [.bool false, .string ⟨#[]⟩, .int .u8 0, .int .i64 0, .bool false, .bool false, .bool false, .int .i64 0, .int .i64 0, .int .u8 0, .int .u16 0, .slice none 0 0, .slice none 0 0, .int .i64 0, .bool false, .int .u8 0, .int .u8 0, .int .u8 0, .bool false, .int .u8 0, .int .u8 0, .int .u8 0, .int .u16 0, .bool false, .bool false, .int .u8 0, .int .u8 0, .int .u8 0, .int .u16 0, .bool false, .bool false, .int .u8 0]); refine wpList_store_mid rfl 36 (.tmp 2) (.tmp 14) rfl (w.heap.size + 1) 0 (List.toArray [.bool false, .string ⟨#[]⟩, .int .u8 0, .int .i64 0, .bool false, .bool false, .bool false, .int .i64 0, .int .i64 0, .int .u8 0, .int .u16 0, .slice none 0 0, .slice none 0 0, .int .i64 0, .bool false, .int .u8 0, .int .u8 0, .int .u8 0, .bool false, .int .u8 0, .int .u8 0, .int .u8 0, .int .u16 0, .bool false, .bool false, .int .u8 0, .int .u8 0, .int .u8 0, .int .u16 0, .bool false, .bool false, .int .u8 0]) rfl rfl BR.out.there (by kernel_rfl) (by simp [Value.oneCell']) ?_; generalize World.setCells _ (w.heap.size + 1) 0 _ = Y at y0 y1 ⊢; simp only [Act.put, List.setIfInBounds_toArray, List.set_cons_zero, List.set_cons_succ]))
 exact bodyPost_ret (results_cell_row rfl _ _ _ _ _ _ _ rfl y0.out rfl rfl (by kernel_rfl)) rfl ⟨rfl, y1.out⟩
theorem rz_load (x : Value) : Puts 25 #[.agg #[.bool false, .string ⟨#[]⟩, .int .u8 0, .int .i64 0, .bool false, .bool false, .bool false, .int .i64 0, .int .i64 0, .int .u8 0, .int .u16 0, .slice none 0 0, .slice none 0 0, .int .i64 0, .bool false, .int .u8 0, .int .u8 0, .int .u8 0, .bool false, .int .u8 0, .int .u8 0, .int .u8 0, .int .u16 0, .bool false, .bool false, .int .u8 0, .int .u8 0, .int .u8 0, .int .u16 0, .bool false, .bool false, .int .u8 0], x] (.tuple #[.agg #[.bool false, .string ⟨#[]⟩, .int .u8 0, .int .i64 0, .bool false, .bool false, .bool false, .int .i64 0, .int .i64 0, .int .u8 0, .int .u16 0, .slice none 0 0, .slice none 0 0, .int .i64 0, .bool false, .int .u8 0, .int .u8 0, .int .u8 0, .bool false, .int .u8 0, .int .u8 0, .int .u8 0, .int .u16 0, .bool false, .bool false, .int .u8 0, .int .u8 0, .int .u8 0, .int .u16 0, .bool false, .bool false, .int .u8 0], .int .i64 7]) := by
 intro w
 have BZ := ab.mk (blk_range (ah (aC w (.cells #[.bool false, .string ⟨#[]⟩, .int .u8 0, .int .i64 0, .bool false, .bool false, .bool false, .int .i64 0, .int .i64 0, .int .u8 0, .int .u16 0, .slice none 0 0, .slice none 0 0, .int .i64 0, .bool false, .int .u8 0, .int .u8 0, .int .u8 0, .bool false, .int .u8 0, .int .u8 0, .int .u8 0, .int .u16 0, .bool false, .bool false, .int .u8 0, .int .u8 0, .int .u8 0, .int .u16 0, .bool false, .bool false, .int .u8 0] 36)) (.cells #[.bool false, .string ⟨#[]⟩, .int .u8 0, .int .i64 0, .bool false, .bool false, .bool false, .int .i64 0, .int .i64 0, .int .u8 0, .int .u16 0, .slice none 0 0, .slice none 0 0, .int .i64 0, .bool false, .int .u8 0, .int .u8 0, .int .u8 0, .bool false, .int .u8 0, .int .u8 0, .int .u8 0, .int .u16 0, .bool false, .bool false, .int .u8 0, .int .u8 0, .int .u8 0, .int .u16 0, .bool false, .bool false, .int .u8 0] 36)))
 have BR := ab.mk (bF w (.cells #[.bool false, .string ⟨#[]⟩, .int .u8 0, .int .i64 0, .bool false, .bool false, .bool false, .int .i64 0, .int .i64 0, .int .u8 0, .int .u16 0, .slice none 0 0, .slice none 0 0, .int .i64 0, .bool false, .int .u8 0, .int .u8 0, .int .u8 0, .bool false, .int .u8 0, .int .u8 0, .int .u8 0, .int .u16 0, .bool false, .bool false, .int .u8 0, .int .u8 0, .int .u8 0, .int .u16 0, .bool false, .bool false, .int .u8 0] 36) [.bool false, .string ⟨#[]⟩, .int .u8 0, .int .i64 0, .bool false, .bool false, .bool false, .int .i64 0, .int .i64 0, .int .u8 0, .int .u16 0, .slice none 0 0, .slice none 0 0, .int .i64 0, .bool false, .int .u8 0, .int .u8 0, .int .u8 0, .bool false, .int .u8 0, .int .u8 0, .int .u8 0, .int .u16 0, .bool false, .bool false, .int .u8 0, .int .u8 0, .int .u8 0, .int .u16 0, .bool false, .bool false, .int .u8 0] rfl)
 have HB := ab.mk (ac (ac (Below.refl w.heap.size w) (.cells #[.bool false, .string ⟨#[]⟩, .int .u8 0, .int .i64 0, .bool false, .bool false, .bool false, .int .i64 0, .int .i64 0, .int .u8 0, .int .u16 0, .slice none 0 0, .slice none 0 0, .int .i64 0, .bool false, .int .u8 0, .int .u8 0, .int .u8 0, .bool false, .int .u8 0, .int .u8 0, .int .u8 0, .int .u16 0, .bool false, .bool false, .int .u8 0, .int .u8 0, .int .u8 0, .int .u16 0, .bool false, .bool false, .int .u8 0] 36)) (.cells #[.bool false, .string ⟨#[]⟩, .int .u8 0, .int .i64 0, .bool false, .bool false, .bool false, .int .i64 0, .int .i64 0, .int .u8 0, .int .u16 0, .slice none 0 0, .slice none 0 0, .int .i64 0, .bool false, .int .u8 0, .int .u8 0, .int .u8 0, .bool false, .int .u8 0, .int .u8 0, .int .u8 0, .int .u16 0, .bool false, .bool false, .int .u8 0, .int .u8 0, .int .u8 0, .int .u16 0, .bool false, .bool false, .int .u8 0] 36))
 go_enter Try.func25, Try.ntmps25
 go_wp2_with (first
  | ((with_reducible refine ar (N := 20) rfl ?_); refine wpList_load_mid rfl 36 (.tmp 2) rfl w.heap.size 0 rfl [.bool false, .string ⟨#[]⟩, .int .u8 0, .int .i64 0, .bool false, .bool false, .bool false, .int .i64 0, .int .i64 0, .int .u8 0, .int .u16 0, .slice none 0 0, .slice none 0 0, .int .i64 0, .bool false, .int .u8 0, .int .u8 0, .int .u8 0, .bool false, .int .u8 0, .int .u8 0, .int .u8 0, .int .u16 0, .bool false, .bool false, .int .u8 0, .int .u8 0, .int .u8 0, .int .u16 0, .bool false, .bool false, .int .u8 0] _ BZ.out rfl rfl (by kernel_rfl) ?_; simp only [Act.put, List.setIfInBounds_toArray, List.set_cons_zero, List.set_cons_succ])
  | ((with_reducible refine az (t := 36) (p := 4) (v := .tmp 20) rfl ?_); have y0 := ab.mk (BR.out.fillZ [.bool false, .string ⟨#[]⟩, .int .u8 0, .int .i64 0, .bool false, .bool false, .bool false, .int .i64 0, .int .i64 0, .int .u8 0, .int .u16 0, .slice none 0 0, .slice none 0 0, .int .i64 0, .bool false, .int .u8 0, .int .u8 0, .int .u8 0, .bool false, .int .u8 0, .int .u8 0, .int .u8 0, .int .u16 0, .bool false, .bool false, .int .u8 0, .int .u8 0, .int .u8 0, .int .u16 0, .bool false, .bool false, .int .u8 0] rfl); have y1 := ab.mk (ay HB.out (w.heap.size + 1) 0 (by omega) [.bool false, .string ⟨#[]⟩, .int .u8 0, .int .i64 0, .bool false, .bool false, .bool false, .int .i64 0, .int .i64 0, .int .u8 0, .int .u16 0, .slice none 0 0, .slice none 0 0, .int .i64 0, .bool false, .int .u8 0, .int .u8 0, .int .u8 0, .bool false, .int .u8 0, .int .u8 0, .int .u8 0, .int .u16 0, .bool false, .bool false, .int .u8 0, .int .u8 0, .int .u8 0, .int .u16 0, .bool false, .bool false, .int .u8 0]); refine wpList_store_mid rfl 36 (.tmp 4) (.tmp 20) rfl (w.heap.size + 1) 0 (List.toArray [.bool false, .string ⟨#[]⟩, .int .u8 0, .int .i64 0, .bool false, .bool false, .bool false, .int .i64 0, .int .i64 0, .int .u8 0, .int .u16 0, .slice none 0 0, .slice none 0 0, .int .i64 0, .bool false, .int .u8 0, .int .u8 0, .int .u8 0, .bool false, .int .u8 0, .int .u8 0, .int .u8 0, .int .u16 0, .bool false, .bool false, .int .u8 0, .int .u8 0, .int .u8 0, .int .u16 0, .bool false, .bool false, .int .u8 0]) rfl rfl BR.out.there (by kernel_rfl) (by simp [Value.oneCell']) ?_; generalize World.setCells _ (w.heap.size + 1) 0 _ = Y at y0 y1 ⊢; simp only [Act.put, List.setIfInBounds_toArray, List.set_cons_zero, List.set_cons_succ]))
 exact bodyPost_ret (bq rfl _ _ _ _ _ _ _ rfl y0.out rfl rfl (by kernel_rfl)) rfl ⟨rfl, y1.out⟩
theorem bytes_cells (s : ByteArray) : Lib.byteCells s.data.toList = (bytesOf s).map (Value.int .u8) := by
 simp [Lib.byteCells, bytesOf]
theorem wpList_append_run {P : Program} {w w' : World} {ops : Array Oper} {rest : List Oper} {o : Oper} {a : Act} {Q : Exit → Act → World → Prop} (hgd : o.guard = none) (s x : Operand) (t : TypeId)
  (ho : o.op = .call { callee := .builtin .append, args := #[s, x], argTypes := #[t, t] }) (sv xv r : Value) (hs : a.eval s = sv) (hx : a.eval x = xv)
  (hrun : ∀ ty : TypeId, (Builtin.append_ #[t, t] ty #[sv, xv]).run P w = .ok r w') (h : wpList P ops Q rest (a.put o.dst r) w') : wpList P ops Q (o :: rest) a w := by
 refine wpList_plain hgd fun K hK => ?_
 have q := hrun o.type
 unfold Oper.wp
 simp [execOp, ho, resolve, invoke, builtin, hs, hx, q, Result.andThen]
 exact hK _ _ h
theorem makeRow (w : World) (n : Nat) (hn : (n : Int) ≤ 8388272) :
  ∃ w', (Instr.makeSlice 22 (.int .i64 336) (.int .i64 (336 + (n : Int)))).run Try.prog w = .ok (.slice (some ⟨w.heap.size, 0, none⟩) 336 (336 + n)) w' ∧ RowL w' w.heap.size (List.replicate (336 + n) 0) ∧ (∀ (k : Nat) (cs : Array Value) (t : TypeId), w.heap[k]? = some (.cells cs t (0, 0)) → w'.heap[k]? = some (.cells cs t (0, 0))) ∧ (∀ w0 : World, Below w0.heap.size w0 w → Below w0.heap.size w0 w') := by
 obtain ⟨i, hi, hz0, hz1, hz2⟩ := info_parts info5
 have q := run_make (P := Try.prog) w 22 5 i (.int .u8 0) Try.underlying22 hi hz0 .i64 .i64 336 (336 + (n : Int)) (by omega) (by omega) (by rw [hz2]; omega) (by omega)
 rw [show ((336 : Int)).toNat = 336 from rfl, show (336 + (n : Int)).toNat = 336 + n by omega, hz1, Nat.mul_one] at q
 refine ⟨_, q, ?_, fun k cs t hk => ah hk _, fun w0 hb => ac hb _⟩
 ·have e : madeCells (Value.int .u8 0).cells (336 + n) = ((List.replicate (336 + n) (0 : Int)).map (Value.int .u8)).toArray := by
   apply Array.toList_inj.mp
   rw [show (Value.int .u8 0).cells = #[Value.int .u8 0] from rfl, toList_madeCells_one]
   simp
  rw [e]
  exact heap_alloc_new w _
theorem RowL.copyStr {w : World} {g : Nat} {L : List Int} (h : RowL w g L) (o n : Nat) (s : ByteArray) (hle : s.size ≤ n) (hfit : o + s.size ≤ L.length) :
  ∃ w', (∀ (cap : Nat) (ty : TypeId), (Builtin.copy_ #[22, 9] ty #[.slice (some ⟨g, o, none⟩) n cap, .string s]).run Try.prog w = .ok (.int .i64 s.size) w') ∧ RowL w' g (splice L o (bytesOf s)) ∧ (∀ k : Nat, k ≠ g → w'.heap[k]? = w.heap[k]?) ∧ (∀ (B : Nat) (w0 : World), B ≤ g → Below B w0 w → Below B w0 w') := by
 have q := fun (cap : Nat) (ty : TypeId) => Lib.run_copy_row_string (P := Try.prog) w 22 9 ty 5 g o n cap s (L.map (Value.int .u8)).toArray 5 Try.underlying22 (by kernel_rfl) h hle (by simpa using hfit)
 refine ⟨_, q, ?_, fun k hk => setRow_other w g k _ hk, fun B w0 hB hb => below_setRow hb hB _⟩
 refine (setRow_heap w g _ _ 5 (0, 0) h).trans ?_
 rw [bytes_cells]
 simp [splice, bytesOf_length, List.map_take, List.map_drop]
theorem RowL.append {w : World} {g : Nat} {L : List Int} (h : RowL w g L) (n cap : Nat) (A : Option Addr) (c : Nat) (l : List Int) (hr : Kd.C (Kd.int .u8) w A l.length l) (hcap : n + l.length ≤ cap) (hfit : n + l.length ≤ L.length) :
  ∃ w', (∀ ty : TypeId, (Builtin.append_ #[22, 22] ty #[.slice (some ⟨g, 0, none⟩) n cap, .slice A l.length c]).run Try.prog w = .ok (.slice (some ⟨g, 0, none⟩) (n + l.length) cap) w') ∧ RowL w' g (splice L n l) ∧ (∀ k : Nat, k ≠ g → w'.heap[k]? = w.heap[k]?) ∧ (∀ (B : Nat) (w0 : World), B ≤ g → Below B w0 w → Below B w0 w') := by
 have hi := info5
 obtain ⟨i, hi, hz0, hz1, hz2⟩ := info_parts hi
 by_cases h0 : l.length = 0
 ·have e : l = [] := List.eq_nil_of_length_eq_zero h0
  subst e
  refine ⟨w, fun ty => ?_, by simpa [splice] using h, fun _ _ => rfl, fun _ _ _ hb => hb⟩
  have hn : n ≤ cap := by simpa using hcap
  cases A <;> simp [Builtin.append_, run_underlying Try.underlying22, sizeOf, typeInfo, hi, Builtin.lenOf, Builtin.firstCells, hn, storeCells, loadCells, loadCellsFrom]
 ·obtain ⟨ad, rfl, _⟩ := Kd.at_int hr 0 (by omega) (by omega)
  have hnews : ∀ j u, (l.map (Value.int .u8))[j]? = some u → w.cell? (ad.add j) = some u := by
   intro j u hj
   obtain ⟨hl, hp⟩ := List.getElem?_eq_some_iff.1 hj
   have hl' : j < l.length := by simpa using hl
   obtain ⟨ad', e, hc⟩ := Kd.at_int hr (j : Int) (by omega) (by omega)
   cases e
   rw [Int.toNat_natCast] at hc
   rw [hc, ← hp]
   simp [rd, hl']
  have q := fun ty : TypeId => run_append_room (P := Try.prog) w 22 ty 5 i Try.underlying22 hi g n cap (L.map (Value.int .u8)).toArray h ad l.length c (l.map (Value.int .u8)) (by rw [hz1]; simp) hnews (by intro u hu; simp at hu; obtain ⟨x, _, rfl⟩ := hu; rfl) hcap (by rw [hz1]; simpa using hfit)
  refine ⟨_, q, ?_, fun k hk => setRow_other w g k _ hk, fun B w0 hB hb => below_setRow hb hB _⟩
  refine (setRow_heap w g _ _ 5 (0, 0) h).trans ?_
  rw [hz1]
  simp [splice, List.map_take, List.map_drop]
end Go.Proofs.Ytmjjojbedllmgaa.Hand
namespace Go.Proofs.Ytmjjojbedllmgaa.G
def bw.l0 : Nat → Int → List Int → Int → Int → Option (Int)
 | 0, _, _, _, _ => none
 | k + 1, x3, x6, x7, x8 => if x8 < x7 then (if 0 ≤ x8 then (if x8 < (x6.length : Int) then (if x8 = 334 then (bw.l0 k x3 x6 x7 (wrap64 (x8 + 1))) else (if x8 = 335 then (bw.l0 k x3 x6 x7 (wrap64 (x8 + 1))) else (bw.l0 k (IntKind.u16.wrap (x3 + (IntKind.u16.wrap (rd x6 x8)))) x6 x7 (wrap64 (x8 + 1))))) else (none)) else (none)) else (some x3)
def bw.f (k : Nat) (l0 : List Int) : Option (Int) := bw.l0 k 0 l0 (l0.length : Int) 0
theorem bw.calls (k : Nat) (A0 : Option Addr) (c0 : Nat) (l0 : List Int) (r : Int) (w : World) (hr0 : Kd.C (Kd.int .u8) w A0 l0.length l0) (hc0 : l0.length ≤ c0) (h : bw.f k l0 = some r) :
  Calls Try.prog 78 #[.slice A0 l0.length c0] w fun e w' => e = .returned (.int .u16 r) ∧ aM w w' := by
 have HR0 := ab.mk hr0
 have HC0 := ab.mk hc0
 clear hr0 hc0
 have H : (bw.l0 k 0 l0 (l0.length : Int) 0) = some r := h
 clear h
 have H' := ab.mk H
 clear H
 go_enter Try.func78, Try.ntmps78
 go_wp2
 go_loopg [3, 8] k (fun kq v3 v8 w' => ∃ (x3_1 : Int) (x8_1 : Int), v3 = .int .u16 x3_1 ∧ v8 = .int .i64 x8_1 ∧ ab (bw.l0 kq x3_1 l0 (l0.length : Int) x8_1 = some r) ∧ ab (kq ≤ k) ∧ aM w w')
 case atStart => exact ⟨(0), (0), (by first | rfl | (simp; done) | (simp [*]; done)), (by first | rfl | (simp; done) | (simp [*]; done)), H', ⟨Nat.le_refl _⟩, by repeat (first | exact aM.refl _ | apply aM.step)⟩
 case round =>
  clear H'
  obtain ⟨x3_1, x8_1, rfl, rfl, HA, HK1, ⟨m1, rfl⟩⟩ := hrel
  cases gk with
  | zero => exact absurd HA.out (by simp [bw.l0])
  | succ k1 =>
   have H := HA.out
   clear HA
   simp only [bw.l0] at H
   by_cases c2 : x8_1 < (l0.length : Int)
   ·rw [if_pos c2] at H
    have c2b0 : decide (x8_1 < (l0.length : Int)) = true := decide_eq_true c2
    clear c2
    by_cases c3 : 0 ≤ x8_1
    ·rw [if_pos c3] at H
     have c3b0 : decide (0 ≤ x8_1) = true := decide_eq_true c3
     clear c3
     by_cases c4 : x8_1 < (l0.length : Int)
     ·rw [if_pos c4] at H
      have c4b0 : decide (x8_1 < (l0.length : Int)) = true := decide_eq_true c4
      clear c4
      by_cases c5 : x8_1 = 334
      ·rw [if_pos c5] at H
       have c5b0 : (x8_1 == 334) = true := beq_iff_eq.mpr c5
       have c5b1 : (x8_1 != 334) = false := bne_eq_false_iff_eq.mpr c5
       clear c5
       have H' := ab.mk H
       clear H
       have p120 : 0 ≤ (x8_1 : Int) := of_decide_eq_true (by first | (with_reducible assumption) | assumption)
       have q120 : x8_1 < (l0.length : Int) := of_decide_eq_true (by first | (with_reducible assumption) | assumption)
       obtain ⟨ad120, e120, hx120_0⟩ := Kd.at_int HR0.out x8_1 p120 q120
       cases e120
       replace p120 := eq_true p120
       replace q120 := eq_true q120
       go_wp2
       go_roundg k1
       case measure => have := HK1.out; omega
       case rel => exact ⟨(x3_1), (wrap64 (x8_1 + 1)), (by first | rfl | (simp; done) | (simp [*]; done)), (by first | rfl | (simp; done) | (simp [*]; done)), H', ⟨by have := HK1.out; omega⟩, by repeat (first | exact aM.refl _ | apply aM.step)⟩
      ·rw [if_neg c5] at H
       have c5b0 : (x8_1 == 334) = false := beq_eq_false_iff_ne.mpr c5
       have c5b1 : (x8_1 != 334) = true := bne_iff_ne.mpr c5
       by_cases c6 : x8_1 = 335
       ·rw [if_pos c6] at H
        have c6b0 : (x8_1 == 335) = true := beq_iff_eq.mpr c6
        have c6b1 : (x8_1 != 335) = false := bne_eq_false_iff_eq.mpr c6
        clear c6
        have H' := ab.mk H
        clear H
        have p120 : 0 ≤ (x8_1 : Int) := of_decide_eq_true (by first | (with_reducible assumption) | assumption)
        have q120 : x8_1 < (l0.length : Int) := of_decide_eq_true (by first | (with_reducible assumption) | assumption)
        obtain ⟨ad120, e120, hx120_0⟩ := Kd.at_int HR0.out x8_1 p120 q120
        cases e120
        replace p120 := eq_true p120
        replace q120 := eq_true q120
        go_wp2
        go_roundg k1
        case measure => have := HK1.out; omega
        case rel => exact ⟨(x3_1), (wrap64 (x8_1 + 1)), (by first | rfl | (simp; done) | (simp [*]; done)), (by first | rfl | (simp; done) | (simp [*]; done)), H', ⟨by have := HK1.out; omega⟩, by repeat (first | exact aM.refl _ | apply aM.step)⟩
       ·rw [if_neg c6] at H
        have c6b0 : (x8_1 == 335) = false := beq_eq_false_iff_ne.mpr c6
        have c6b1 : (x8_1 != 335) = true := bne_iff_ne.mpr c6
        have H' := ab.mk H
        clear H
        have p120 : 0 ≤ (x8_1 : Int) := of_decide_eq_true (by first | (with_reducible assumption) | assumption)
        have q120 : x8_1 < (l0.length : Int) := of_decide_eq_true (by first | (with_reducible assumption) | assumption)
        obtain ⟨ad120, e120, hx120_0⟩ := Kd.at_int HR0.out x8_1 p120 q120
        cases e120
        replace p120 := eq_true p120
        replace q120 := eq_true q120
        go_wp2
        go_roundg k1
        case measure => have := HK1.out; omega
        case rel => exact ⟨(IntKind.u16.wrap (x3_1 + (IntKind.u16.wrap (rd l0 x8_1)))), (wrap64 (x8_1 + 1)), (by first | rfl | (simp; done) | (simp [*]; done)), (by first | rfl | (simp; done) | (simp [*]; done)), H', ⟨by have := HK1.out; omega⟩, by repeat (first | exact aM.refl _ | apply aM.step)⟩
     ·rw [if_neg c4] at H
      exact absurd H (by simp)
    ·rw [if_neg c3] at H
     exact absurd H (by simp)
   ·rw [if_neg c2] at H
    have c2b0 : decide (x8_1 < (l0.length : Int)) = false := decide_eq_false c2
    clear c2
    obtain rfl := Option.some.inj H
    go_wp2
    go_ret
    exact ⟨by first | rfl | (simp; done) | (simp [*]; done), by repeat (first | exact aM.refl _ | apply aM.step)⟩
end Go.Proofs.Ytmjjojbedllmgaa.G
namespace Go.Proofs.Ytmjjojbedllmgaa.Hand
theorem hmake_long (s : ByteArray) (kd rom ram : Int) (A : Option Addr) (c : Nat) (l : List Int) (w : World) (hr : Kd.C (Kd.int .u8) w A l.length l) (hc : l.length ≤ c) (hs : ¬ (s.size : Int) ≤ 16) :
  Calls Try.prog 52 #[.string s, .int .u8 kd, .int .u8 rom, .int .u8 ram, .slice A l.length c] w fun e' w' => e' = .returned (.tuple #[.slice none 0 0, .int .i64 1]) ∧ Below w.heap.size w w' := by
 have hmf : ∀ (fn : Fn) (first cap : Array Value) (w : World), (Instr.makeFunc fn first cap).run Try.prog w = .ok (.func fn first cap) w := fun _ _ _ _ => rfl
 have HR := ab.mk hr
 clear hr
 go_enter_defers Try.func52, Try.ntmps52
 go_wp2_with fail
 have z1 := heap_alloc_new w (.cells #[.int .i64 0] 26)
 have z2 := ac (Below.refl w.heap.size w) (.cells #[.int .i64 0] 26)
 generalize w.alloc (.cells #[.int .i64 0] 26) = W0 at z1 z2 ⊢
 refine (need_no 1 _).mono ?_
 rintro e' w' ⟨rfl, hw⟩
 replace hw := hw.symm
 subst hw
 refine leaves_cons (f := 77) (args := #[.pointer (some ⟨w.heap.size, 0, none⟩)]) (by simp) (by simp [go_sem]) ?_
 refine (cd ⟨w.heap.size, 0, none⟩ 0 1 [] _ ((aa (z1) 0).trans rfl) (ae (z1) 0)).mono ?_
 rintro e u' w'' ⟨rfl, rfl, rfl⟩
 have m1 : ((W0).setCell ⟨w.heap.size, 0, none⟩ (.int .i64 1)).heap[w.heap.size]? = some (.cells #[.int .i64 1] 26 (0, 0)) := an (z1) 0 _ rfl
 have m2 : Below w.heap.size w ((W0).setCell ⟨w.heap.size, 0, none⟩ (.int .i64 1)) := ag (z2) (Nat.le_refl _)
 generalize ((W0).setCell ⟨w.heap.size, 0, none⟩ (.int .i64 1)) = Y at m1 m2 ⊢
 have v0 : Y.cell? ⟨w.heap.size, 0, none⟩ = some (.int .i64 1) := (aa m1 0).trans rfl
 simp [Leaves, settle, results, Try.results52, go_sem, v0, m2]
theorem hmake_sign (s : ByteArray) (kd rom ram : Int) (A : Option Addr) (c : Nat) (l : List Int) (w : World) (hr : Kd.C (Kd.int .u8) w A l.length l) (hc : l.length ≤ c) (hs : (s.size : Int) ≤ 16) (j0 : Nat) (hj0 : (j0 : Int) < s.size) (hpr : ∀ i : Nat, i < j0 → prb (bt s (i : Int)) = true) (hno : prb (bt s (j0 : Int)) = false) :
  Calls Try.prog 52 #[.string s, .int .u8 kd, .int .u8 rom, .int .u8 ram, .slice A l.length c] w fun e' w' => e' = .returned (.tuple #[.slice none 0 0, .int .i64 1]) ∧ Below w.heap.size w w' := by
 have hmf : ∀ (fn : Fn) (first cap : Array Value) (w : World), (Instr.makeFunc fn first cap).run Try.prog w = .ok (.func fn first cap) w := fun _ _ _ _ => rfl
 have HR := ab.mk hr
 clear hr
 go_enter_defers Try.func52, Try.ntmps52
 go_wp2_with fail
 have z1 := heap_alloc_new w (.cells #[.int .i64 0] 26)
 have z2 := ac (Below.refl w.heap.size w) (.cells #[.int .i64 0] 26)
 generalize w.alloc (.cells #[.int .i64 0] 26) = W0 at z1 z2 ⊢
 refine (bu 1 _).mono ?_
 rintro e' w' ⟨rfl, hw⟩
 replace hw := hw.symm
 subst hw
 go_wp2_with fail
 go_loopw [24] (fun i w' => ∃ (j : Nat), i = .int .i64 j ∧ ab (j ≤ j0 ∧ w'.heap[w.heap.size]? = some (.cells #[.int .i64 0] 26 (0, 0)) ∧ Below w.heap.size w w')) (fun i _ => 20 - (intOf i).toNat)
 case atStart => exact ⟨0, rfl, ab.mk ⟨by omega, z1, z2⟩⟩
 case round =>
  obtain ⟨j, rfl, HA⟩ := hrel
  obtain ⟨hj, z1, z2⟩ := HA.out
  clear HA
  by_cases hjJ : j = j0
  ·have hpr' := hpr
   clear hpr
   have h16 : (j : Int) ≤ 16 := by omega
   subst hjJ
   have p9 : 0 ≤ (j : Int) := by omega
   have q9 : (j : Int) < (s.size : Int) := by omega
   replace p9 := eq_true p9
   replace q9 := eq_true q9
   have hjs : j < s.size := by omega
   have hbt : bt s (j : Int) = ((s[j]'hjs).toNat : Int) := by simp [bt, hjs]
   rw [hbt] at hno
   go_wp2_with fail
   (with_reducible refine (bj.calls _ _ _ (prb_calls _)).mono ?_)
   rintro e' w' ⟨rfl, ⟨nd, rfl⟩⟩
   rw [hno]
   go_wp2_with fail
   refine (need_no 1 _).mono ?_
   rintro e' w' ⟨rfl, rfl⟩
   have D1 := au z1 nd
   have D2 := ai z2 nd
   generalize wr.drewN nd = W1 at D1 D2 ⊢
   refine leaves_cons (f := 77) (args := #[.pointer (some ⟨w.heap.size, 0, none⟩)]) (by simp) (by simp [go_sem]) ?_
   refine (cd ⟨w.heap.size, 0, none⟩ 0 1 [] _ ((aa (D1) 0).trans rfl) (ae (D1) 0)).mono ?_
   rintro e u' w'' ⟨rfl, rfl, rfl⟩
   have m1 : ((W1).setCell ⟨w.heap.size, 0, none⟩ (.int .i64 1)).heap[w.heap.size]? = some (.cells #[.int .i64 1] 26 (0, 0)) := an (D1) 0 _ rfl
   have m2 : Below w.heap.size w ((W1).setCell ⟨w.heap.size, 0, none⟩ (.int .i64 1)) := ag (D2) (Nat.le_refl _)
   generalize ((W1).setCell ⟨w.heap.size, 0, none⟩ (.int .i64 1)) = Y at m1 m2 ⊢
   have v0 : Y.cell? ⟨w.heap.size, 0, none⟩ = some (.int .i64 1) := (aa m1 0).trans rfl
   simp [Leaves, settle, results, Try.results52, go_sem, v0, m2]

  have hb := hpr j (by omega)
  have p9 : 0 ≤ (j : Int) := by omega
  have q9 : (j : Int) < (s.size : Int) := by omega
  have hx9 := bt_at s (j : Int)
  have q9' := q9
  replace p9 := eq_true p9
  replace q9 := eq_true q9
  have hjs : j < s.size := by omega
  have hbt : bt s (j : Int) = ((s[j]'hjs).toNat : Int) := by simp [bt, hjs]
  rw [hbt] at hb
  clear hx9
  go_wp2_with fail
  (with_reducible refine (bj.calls _ _ _ (prb_calls _)).mono ?_)
  rintro e' w' ⟨rfl, ⟨nd, rfl⟩⟩
  rw [hb]
  go_wp2_with fail
  refine (bu 1 _).mono ?_
  rintro e' w' ⟨rfl, rfl⟩
  go_wp2_with fail
  exact ⟨⟨j + 1, by simp, ab.mk ⟨by omega, au z1 nd, ai z2 nd⟩⟩, by simp [intOf]; omega⟩
theorem hmake_kind (s : ByteArray) (kd rom ram : Int) (A : Option Addr) (c : Nat) (l : List Int) (w : World) (hr : Kd.C (Kd.int .u8) w A l.length l) (hc : l.length ≤ c) (hs : (s.size : Int) ≤ 16) (hpr : ∀ i : Nat, i < s.size → prb (bt s (i : Int)) = true) (hk : 0 ≤ kd ∧ kd ≤ 255) (hok : (am kd).2.2.2.2 = false) :
  Calls Try.prog 52 #[.string s, .int .u8 kd, .int .u8 rom, .int .u8 ram, .slice A l.length c] w fun e' w' => e' = .returned (.tuple #[.slice none 0 0, .int .i64 4]) ∧ Below w.heap.size w w' := by
 have hmf : ∀ (fn : Fn) (first cap : Array Value) (w : World), (Instr.makeFunc fn first cap).run Try.prog w = .ok (.func fn first cap) w := fun _ _ _ _ => rfl
 have HR := ab.mk hr
 clear hr
 go_enter_defers Try.func52, Try.ntmps52
 go_wp2_with fail
 have z1 := heap_alloc_new w (.cells #[.int .i64 0] 26)
 have z2 := ac (Below.refl w.heap.size w) (.cells #[.int .i64 0] 26)
 generalize w.alloc (.cells #[.int .i64 0] 26) = W0 at z1 z2 ⊢
 refine (bu 1 _).mono ?_
 rintro e' w' ⟨rfl, hw⟩
 replace hw := hw.symm
 subst hw
 go_wp2_with fail
 go_loopw [24] (fun i w' => ∃ (j : Nat), i = .int .i64 j ∧ ab (j ≤ s.size ∧ w'.heap[w.heap.size]? = some (.cells #[.int .i64 0] 26 (0, 0)) ∧ Below w.heap.size w w')) (fun i _ => 20 - (intOf i).toNat)
 case atStart => exact ⟨0, rfl, ab.mk ⟨by omega, z1, z2⟩⟩
 case round =>
  obtain ⟨j, rfl, HA⟩ := hrel
  obtain ⟨hj, z1, z2⟩ := HA.out
  clear HA
  by_cases hjJ : j = s.size
  ·have hpr' := hpr
   clear hpr
   have h16 : (j : Int) ≤ 16 := by omega
   have hge : ¬ (j : Int) < (s.size : Int) := by omega
   go_wp2_with fail
   refine (bL.calls kd hk _).mono ?_
   rintro e' w1 ⟨rfl, hb⟩
   have B1 := af z1 hb
   have B2 := Below.trans z2 (hb.mono z2.size)
   rw [hok]
   go_wp2_with fail
   refine (need_no 4 _).mono ?_
   rintro e' w' ⟨rfl, rfl⟩
   have D1 := ah B1 (.cells #[.string ⟨#[]⟩, .int .u8 0, .int .i64 (am kd).1, .bool (am kd).2.1, .bool (am kd).2.2.1, .bool (am kd).2.2.2.1, .int .i64 0, .int .i64 0, .int .u8 0, .int .u16 0] 30)
   have D2 := ac B2 (.cells #[.string ⟨#[]⟩, .int .u8 0, .int .i64 (am kd).1, .bool (am kd).2.1, .bool (am kd).2.2.1, .bool (am kd).2.2.2.1, .int .i64 0, .int .i64 0, .int .u8 0, .int .u16 0] 30)
   generalize w1.alloc (.cells #[.string ⟨#[]⟩, .int .u8 0, .int .i64 (am kd).1, .bool (am kd).2.1, .bool (am kd).2.2.1, .bool (am kd).2.2.2.1, .int .i64 0, .int .i64 0, .int .u8 0, .int .u16 0] 30) = W1 at D1 D2 ⊢
   clear z1 z2 B1 B2 hb
   refine leaves_cons (f := 77) (args := #[.pointer (some ⟨w.heap.size, 0, none⟩)]) (by simp) (by simp [go_sem]) ?_
   refine (cd ⟨w.heap.size, 0, none⟩ 0 4 [] _ ((aa (D1) 0).trans rfl) (ae (D1) 0)).mono ?_
   rintro e u' w'' ⟨rfl, rfl, rfl⟩
   have m1 : ((W1).setCell ⟨w.heap.size, 0, none⟩ (.int .i64 4)).heap[w.heap.size]? = some (.cells #[.int .i64 4] 26 (0, 0)) := an (D1) 0 _ rfl
   have m2 : Below w.heap.size w ((W1).setCell ⟨w.heap.size, 0, none⟩ (.int .i64 4)) := ag (D2) (Nat.le_refl _)
   generalize ((W1).setCell ⟨w.heap.size, 0, none⟩ (.int .i64 4)) = Y at m1 m2 ⊢
   have v0 : Y.cell? ⟨w.heap.size, 0, none⟩ = some (.int .i64 4) := (aa m1 0).trans rfl
   simp [Leaves, settle, results, Try.results52, go_sem, v0, m2]

  have hb := hpr j (by omega)
  have p9 : 0 ≤ (j : Int) := by omega
  have q9 : (j : Int) < (s.size : Int) := by omega
  have hx9 := bt_at s (j : Int)
  have q9' := q9
  replace p9 := eq_true p9
  replace q9 := eq_true q9
  have hjs : j < s.size := by omega
  have hbt : bt s (j : Int) = ((s[j]'hjs).toNat : Int) := by simp [bt, hjs]
  rw [hbt] at hb
  clear hx9
  go_wp2_with fail
  (with_reducible refine (bj.calls _ _ _ (prb_calls _)).mono ?_)
  rintro e' w' ⟨rfl, ⟨nd, rfl⟩⟩
  rw [hb]
  go_wp2_with fail
  refine (bu 1 _).mono ?_
  rintro e' w' ⟨rfl, rfl⟩
  go_wp2_with fail
  exact ⟨⟨j + 1, by simp, ab.mk ⟨by omega, au z1 nd, ai z2 nd⟩⟩, by simp [intOf]; omega⟩
theorem hmake_size_a (s : ByteArray) (kd rom ram : Int) (A : Option Addr) (c : Nat) (l : List Int) (w : World) (hr : Kd.C (Kd.int .u8) w A l.length l) (hc : l.length ≤ c) (hs : (s.size : Int) ≤ 16) (hpr : ∀ i : Nat, i < s.size → prb (bt s (i : Int)) = true) (hk : 0 ≤ kd ∧ kd ≤ 255) (hok : (am kd).2.2.2.2 = true) (h8 : decide (rom ≤ 8) = false) :
  Calls Try.prog 52 #[.string s, .int .u8 kd, .int .u8 rom, .int .u8 ram, .slice A l.length c] w fun e' w' => e' = .returned (.tuple #[.slice none 0 0, .int .i64 5]) ∧ Below w.heap.size w w' := by
 have hmf : ∀ (fn : Fn) (first cap : Array Value) (w : World), (Instr.makeFunc fn first cap).run Try.prog w = .ok (.func fn first cap) w := fun _ _ _ _ => rfl
 have HR := ab.mk hr
 clear hr
 go_enter_defers Try.func52, Try.ntmps52
 go_wp2_with fail
 have z1 := heap_alloc_new w (.cells #[.int .i64 0] 26)
 have z2 := ac (Below.refl w.heap.size w) (.cells #[.int .i64 0] 26)
 generalize w.alloc (.cells #[.int .i64 0] 26) = W0 at z1 z2 ⊢
 refine (bu 1 _).mono ?_
 rintro e' w' ⟨rfl, hw⟩
 replace hw := hw.symm
 subst hw
 go_wp2_with fail
 go_loopw [24] (fun i w' => ∃ (j : Nat), i = .int .i64 j ∧ ab (j ≤ s.size ∧ w'.heap[w.heap.size]? = some (.cells #[.int .i64 0] 26 (0, 0)) ∧ Below w.heap.size w w')) (fun i _ => 20 - (intOf i).toNat)
 case atStart => exact ⟨0, rfl, ab.mk ⟨by omega, z1, z2⟩⟩
 case round =>
  obtain ⟨j, rfl, HA⟩ := hrel
  obtain ⟨hj, z1, z2⟩ := HA.out
  clear HA
  by_cases hjJ : j = s.size
  ·have hpr' := hpr
   clear hpr
   have h16 : (j : Int) ≤ 16 := by omega
   have hge : ¬ (j : Int) < (s.size : Int) := by omega
   go_wp2_with fail
   refine (bL.calls kd hk _).mono ?_
   rintro e' w1 ⟨rfl, hb⟩
   have B1 := af z1 hb
   have B2 := Below.trans z2 (hb.mono z2.size)
   rw [hok]
   go_wp2_with fail
   refine (bu 4 _).mono ?_
   rintro e' w' ⟨rfl, rfl⟩
   have D1 := ah B1 (.cells #[.string ⟨#[]⟩, .int .u8 kd, .int .i64 (am kd).1, .bool (am kd).2.1, .bool (am kd).2.2.1, .bool (am kd).2.2.2.1, .int .i64 0, .int .i64 0, .int .u8 0, .int .u16 0] 30)
   have D2 := ac B2 (.cells #[.string ⟨#[]⟩, .int .u8 kd, .int .i64 (am kd).1, .bool (am kd).2.1, .bool (am kd).2.2.1, .bool (am kd).2.2.2.1, .int .i64 0, .int .i64 0, .int .u8 0, .int .u16 0] 30)
   generalize w1.alloc (.cells #[.string ⟨#[]⟩, .int .u8 kd, .int .i64 (am kd).1, .bool (am kd).2.1, .bool (am kd).2.2.1, .bool (am kd).2.2.2.1, .int .i64 0, .int .i64 0, .int .u8 0, .int .u16 0] 30) = W1 at D1 D2 ⊢
   clear z1 z2 B1 B2 hb
   go_wp2_with fail
   refine (need_no 5 _).mono ?_
   rintro e' w' ⟨rfl, hw⟩
   replace hw := hw.symm
   subst hw
   refine leaves_cons (f := 77) (args := #[.pointer (some ⟨w.heap.size, 0, none⟩)]) (by simp) (by simp [go_sem]) ?_
   refine (cd ⟨w.heap.size, 0, none⟩ 0 5 [] _ ((aa (D1) 0).trans rfl) (ae (D1) 0)).mono ?_
   rintro e u' w'' ⟨rfl, rfl, rfl⟩
   have m1 : ((W1).setCell ⟨w.heap.size, 0, none⟩ (.int .i64 5)).heap[w.heap.size]? = some (.cells #[.int .i64 5] 26 (0, 0)) := an (D1) 0 _ rfl
   have m2 : Below w.heap.size w ((W1).setCell ⟨w.heap.size, 0, none⟩ (.int .i64 5)) := ag (D2) (Nat.le_refl _)
   generalize ((W1).setCell ⟨w.heap.size, 0, none⟩ (.int .i64 5)) = Y at m1 m2 ⊢
   have v0 : Y.cell? ⟨w.heap.size, 0, none⟩ = some (.int .i64 5) := (aa m1 0).trans rfl
   simp [Leaves, settle, results, Try.results52, go_sem, v0, m2]

  have hb := hpr j (by omega)
  have p9 : 0 ≤ (j : Int) := by omega
  have q9 : (j : Int) < (s.size : Int) := by omega
  have hx9 := bt_at s (j : Int)
  have q9' := q9
  replace p9 := eq_true p9
  replace q9 := eq_true q9
  have hjs : j < s.size := by omega
  have hbt : bt s (j : Int) = ((s[j]'hjs).toNat : Int) := by simp [bt, hjs]
  rw [hbt] at hb
  clear hx9
  go_wp2_with fail
  (with_reducible refine (bj.calls _ _ _ (prb_calls _)).mono ?_)
  rintro e' w' ⟨rfl, ⟨nd, rfl⟩⟩
  rw [hb]
  go_wp2_with fail
  refine (bu 1 _).mono ?_
  rintro e' w' ⟨rfl, rfl⟩
  go_wp2_with fail
  exact ⟨⟨j + 1, by simp, ab.mk ⟨by omega, au z1 nd, ai z2 nd⟩⟩, by simp [intOf]; omega⟩
theorem hmake_size_b (s : ByteArray) (kd rom ram : Int) (A : Option Addr) (c : Nat) (l : List Int) (w : World) (hr : Kd.C (Kd.int .u8) w A l.length l) (hc : l.length ≤ c) (hs : (s.size : Int) ≤ 16) (hpr : ∀ i : Nat, i < s.size → prb (bt s (i : Int)) = true) (hk : 0 ≤ kd ∧ kd ≤ 255) (hok : (am kd).2.2.2.2 = true) (h8 : decide (rom ≤ 8) = true) (h5 : decide (ram ≤ 5) = false) :
  Calls Try.prog 52 #[.string s, .int .u8 kd, .int .u8 rom, .int .u8 ram, .slice A l.length c] w fun e' w' => e' = .returned (.tuple #[.slice none 0 0, .int .i64 5]) ∧ Below w.heap.size w w' := by
 have hmf : ∀ (fn : Fn) (first cap : Array Value) (w : World), (Instr.makeFunc fn first cap).run Try.prog w = .ok (.func fn first cap) w := fun _ _ _ _ => rfl
 have HR := ab.mk hr
 clear hr
 go_enter_defers Try.func52, Try.ntmps52
 go_wp2_with fail
 have z1 := heap_alloc_new w (.cells #[.int .i64 0] 26)
 have z2 := ac (Below.refl w.heap.size w) (.cells #[.int .i64 0] 26)
 generalize w.alloc (.cells #[.int .i64 0] 26) = W0 at z1 z2 ⊢
 refine (bu 1 _).mono ?_
 rintro e' w' ⟨rfl, hw⟩
 replace hw := hw.symm
 subst hw
 go_wp2_with fail
 go_loopw [24] (fun i w' => ∃ (j : Nat), i = .int .i64 j ∧ ab (j ≤ s.size ∧ w'.heap[w.heap.size]? = some (.cells #[.int .i64 0] 26 (0, 0)) ∧ Below w.heap.size w w')) (fun i _ => 20 - (intOf i).toNat)
 case atStart => exact ⟨0, rfl, ab.mk ⟨by omega, z1, z2⟩⟩
 case round =>
  obtain ⟨j, rfl, HA⟩ := hrel
  obtain ⟨hj, z1, z2⟩ := HA.out
  clear HA
  by_cases hjJ : j = s.size
  ·have hpr' := hpr
   clear hpr
   have h16 : (j : Int) ≤ 16 := by omega
   have hge : ¬ (j : Int) < (s.size : Int) := by omega
   go_wp2_with fail
   refine (bL.calls kd hk _).mono ?_
   rintro e' w1 ⟨rfl, hb⟩
   have B1 := af z1 hb
   have B2 := Below.trans z2 (hb.mono z2.size)
   rw [hok]
   go_wp2_with fail
   refine (bu 4 _).mono ?_
   rintro e' w' ⟨rfl, rfl⟩
   have D1 := ah B1 (.cells #[.string ⟨#[]⟩, .int .u8 kd, .int .i64 (am kd).1, .bool (am kd).2.1, .bool (am kd).2.2.1, .bool (am kd).2.2.2.1, .int .i64 0, .int .i64 0, .int .u8 0, .int .u16 0] 30)
   have D2 := ac B2 (.cells #[.string ⟨#[]⟩, .int .u8 kd, .int .i64 (am kd).1, .bool (am kd).2.1, .bool (am kd).2.2.1, .bool (am kd).2.2.2.1, .int .i64 0, .int .i64 0, .int .u8 0, .int .u16 0] 30)
   generalize w1.alloc (.cells #[.string ⟨#[]⟩, .int .u8 kd, .int .i64 (am kd).1, .bool (am kd).2.1, .bool (am kd).2.2.1, .bool (am kd).2.2.2.1, .int .i64 0, .int .i64 0, .int .u8 0, .int .u16 0] 30) = W1 at D1 D2 ⊢
   clear z1 z2 B1 B2 hb
   go_wp2_with fail
   refine (need_no 5 _).mono ?_
   rintro e' w' ⟨rfl, hw⟩
   replace hw := hw.symm
   subst hw
   refine leaves_cons (f := 77) (args := #[.pointer (some ⟨w.heap.size, 0, none⟩)]) (by simp) (by simp [go_sem]) ?_
   refine (cd ⟨w.heap.size, 0, none⟩ 0 5 [] _ ((aa (D1) 0).trans rfl) (ae (D1) 0)).mono ?_
   rintro e u' w'' ⟨rfl, rfl, rfl⟩
   have m1 : ((W1).setCell ⟨w.heap.size, 0, none⟩ (.int .i64 5)).heap[w.heap.size]? = some (.cells #[.int .i64 5] 26 (0, 0)) := an (D1) 0 _ rfl
   have m2 : Below w.heap.size w ((W1).setCell ⟨w.heap.size, 0, none⟩ (.int .i64 5)) := ag (D2) (Nat.le_refl _)
   generalize ((W1).setCell ⟨w.heap.size, 0, none⟩ (.int .i64 5)) = Y at m1 m2 ⊢
   have v0 : Y.cell? ⟨w.heap.size, 0, none⟩ = some (.int .i64 5) := (aa m1 0).trans rfl
   simp [Leaves, settle, results, Try.results52, go_sem, v0, m2]

  have hb := hpr j (by omega)
  have p9 : 0 ≤ (j : Int) := by omega
  have q9 : (j : Int) < (s.size : Int) := by omega
  have hx9 := bt_at s (j : Int)
  have q9' := q9
  replace p9 := eq_true p9
  replace q9 := eq_true q9
  have hjs : j < s.size := by omega
  have hbt : bt s (j : Int) = ((s[j]'hjs).toNat : Int) := by simp [bt, hjs]
  rw [hbt] at hb
  clear hx9
  go_wp2_with fail
  (with_reducible refine (bj.calls _ _ _ (prb_calls _)).mono ?_)
  rintro e' w' ⟨rfl, ⟨nd, rfl⟩⟩
  rw [hb]
  go_wp2_with fail
  refine (bu 1 _).mono ?_
  rintro e' w' ⟨rfl, rfl⟩
  go_wp2_with fail
  exact ⟨⟨j + 1, by simp, ab.mk ⟨by omega, au z1 nd, ai z2 nd⟩⟩, by simp [intOf]; omega⟩
theorem hmake_size_c (s : ByteArray) (kd rom ram : Int) (A : Option Addr) (c : Nat) (l : List Int) (w : World) (hr : Kd.C (Kd.int .u8) w A l.length l) (hc : l.length ≤ c) (hs : (s.size : Int) ≤ 16) (hpr : ∀ i : Nat, i < s.size → prb (bt s (i : Int)) = true) (hk : 0 ≤ kd ∧ kd ≤ 255) (hok : (am kd).2.2.2.2 = true) (h80 : 0 ≤ rom) (h8 : decide (rom ≤ 8) = true) (h5 : decide (ram ≤ 5) = true) (hm : decide ((l.length : Int) ≤ wrap64 (shl .i64 32768 rom - 336)) = false) :
  Calls Try.prog 52 #[.string s, .int .u8 kd, .int .u8 rom, .int .u8 ram, .slice A l.length c] w fun e' w' => e' = .returned (.tuple #[.slice none 0 0, .int .i64 5]) ∧ Below w.heap.size w w' := by
 have hmf : ∀ (fn : Fn) (first cap : Array Value) (w : World), (Instr.makeFunc fn first cap).run Try.prog w = .ok (.func fn first cap) w := fun _ _ _ _ => rfl
 have HR := ab.mk hr
 clear hr
 go_enter_defers Try.func52, Try.ntmps52
 go_wp2_with fail
 have z1 := heap_alloc_new w (.cells #[.int .i64 0] 26)
 have z2 := ac (Below.refl w.heap.size w) (.cells #[.int .i64 0] 26)
 generalize w.alloc (.cells #[.int .i64 0] 26) = W0 at z1 z2 ⊢
 refine (bu 1 _).mono ?_
 rintro e' w' ⟨rfl, hw⟩
 replace hw := hw.symm
 subst hw
 go_wp2_with fail
 go_loopw [24] (fun i w' => ∃ (j : Nat), i = .int .i64 j ∧ ab (j ≤ s.size ∧ w'.heap[w.heap.size]? = some (.cells #[.int .i64 0] 26 (0, 0)) ∧ Below w.heap.size w w')) (fun i _ => 20 - (intOf i).toNat)
 case atStart => exact ⟨0, rfl, ab.mk ⟨by omega, z1, z2⟩⟩
 case round =>
  obtain ⟨j, rfl, HA⟩ := hrel
  obtain ⟨hj, z1, z2⟩ := HA.out
  clear HA
  by_cases hjJ : j = s.size
  ·have hpr' := hpr
   clear hpr
   have h16 : (j : Int) ≤ 16 := by omega
   have hge : ¬ (j : Int) < (s.size : Int) := by omega
   go_wp2_with fail
   refine (bL.calls kd hk _).mono ?_
   rintro e' w1 ⟨rfl, hb⟩
   have B1 := af z1 hb
   have B2 := Below.trans z2 (hb.mono z2.size)
   rw [hok]
   go_wp2_with fail
   refine (bu 4 _).mono ?_
   rintro e' w' ⟨rfl, rfl⟩
   have D1 := ah B1 (.cells #[.string ⟨#[]⟩, .int .u8 kd, .int .i64 (am kd).1, .bool (am kd).2.1, .bool (am kd).2.2.1, .bool (am kd).2.2.2.1, .int .i64 0, .int .i64 0, .int .u8 0, .int .u16 0] 30)
   have D2 := ac B2 (.cells #[.string ⟨#[]⟩, .int .u8 kd, .int .i64 (am kd).1, .bool (am kd).2.1, .bool (am kd).2.2.1, .bool (am kd).2.2.2.1, .int .i64 0, .int .i64 0, .int .u8 0, .int .u16 0] 30)
   generalize w1.alloc (.cells #[.string ⟨#[]⟩, .int .u8 kd, .int .i64 (am kd).1, .bool (am kd).2.1, .bool (am kd).2.2.1, .bool (am kd).2.2.2.1, .int .i64 0, .int .i64 0, .int .u8 0, .int .u16 0] 30) = W1 at D1 D2 ⊢
   clear z1 z2 B1 B2 hb
   go_wp2_with fail
   (with_reducible refine (bH.calls rom _ _ (by unfold bH.f; rw [if_pos h80])).mono ?_)
   rintro e' w' ⟨rfl, ⟨nd, rfl⟩⟩
   go_wp2_with fail
   refine (need_no 5 _).mono ?_
   rintro e' w' ⟨rfl, rfl⟩
   have E1 := au D1 nd
   have E2 := ai D2 nd
   generalize W1.drewN nd = W2 at E1 E2 ⊢
   refine leaves_cons (f := 77) (args := #[.pointer (some ⟨w.heap.size, 0, none⟩)]) (by simp) (by simp [go_sem]) ?_
   refine (cd ⟨w.heap.size, 0, none⟩ 0 5 [] _ ((aa (E1) 0).trans rfl) (ae (E1) 0)).mono ?_
   rintro e u' w'' ⟨rfl, rfl, rfl⟩
   have m1 : ((W2).setCell ⟨w.heap.size, 0, none⟩ (.int .i64 5)).heap[w.heap.size]? = some (.cells #[.int .i64 5] 26 (0, 0)) := an (E1) 0 _ rfl
   have m2 : Below w.heap.size w ((W2).setCell ⟨w.heap.size, 0, none⟩ (.int .i64 5)) := ag (E2) (Nat.le_refl _)
   generalize ((W2).setCell ⟨w.heap.size, 0, none⟩ (.int .i64 5)) = Y at m1 m2 ⊢
   have v0 : Y.cell? ⟨w.heap.size, 0, none⟩ = some (.int .i64 5) := (aa m1 0).trans rfl
   simp [Leaves, settle, results, Try.results52, go_sem, v0, m2]

  have hb := hpr j (by omega)
  have p9 : 0 ≤ (j : Int) := by omega
  have q9 : (j : Int) < (s.size : Int) := by omega
  have hx9 := bt_at s (j : Int)
  have q9' := q9
  replace p9 := eq_true p9
  replace q9 := eq_true q9
  have hjs : j < s.size := by omega
  have hbt : bt s (j : Int) = ((s[j]'hjs).toNat : Int) := by simp [bt, hjs]
  rw [hbt] at hb
  clear hx9
  go_wp2_with fail
  (with_reducible refine (bj.calls _ _ _ (prb_calls _)).mono ?_)
  rintro e' w' ⟨rfl, ⟨nd, rfl⟩⟩
  rw [hb]
  go_wp2_with fail
  refine (bu 1 _).mono ?_
  rintro e' w' ⟨rfl, rfl⟩
  go_wp2_with fail
  exact ⟨⟨j + 1, by simp, ab.mk ⟨by omega, au z1 nd, ai z2 nd⟩⟩, by simp [intOf]; omega⟩
theorem most_le (rom : Int) (h0 : 0 ≤ rom) (h8 : rom ≤ 8) : wrap64 (shl .i64 32768 rom - 336) ≤ 8388272 := by
 have h : rom = 0 ∨ rom = 1 ∨ rom = 2 ∨ rom = 3 ∨ rom = 4 ∨ rom = 5 ∨ rom = 6 ∨ rom = 7 ∨ rom = 8 := by omega
 rcases h with rfl | rfl | rfl | rfl | rfl | rfl | rfl | rfl | rfl <;> decide +kernel
theorem hmake_ok (s : ByteArray) (kd rom ram : Int) (A : Option Addr) (c : Nat) (l : List Int) (w : World) (hr : Kd.C (Kd.int .u8) w A l.length l) (hc : l.length ≤ c) (hs : (s.size : Int) ≤ 16) (hpr : ∀ i : Nat, i < s.size → prb (bt s (i : Int)) = true) (hk : 0 ≤ kd ∧ kd ≤ 255) (hok : (am kd).2.2.2.2 = true) (h80 : 0 ≤ rom) (h8 : decide (rom ≤ 8) = true) (h5 : decide (ram ≤ 5) = true) (hm : decide ((l.length : Int) ≤ wrap64 (shl .i64 32768 rom - 336)) = true) (kW : Nat) (wv : Int) (hW : bw.f kW (splice (((((splice (splice (List.replicate (336 + l.length) 0) 256 (bytesOf ⟨#[0, 195, 80, 1]⟩)) 308 (bytesOf s)).set 327 kd).set 328 rom).set 329 ram).set 333 (sumTo (((((splice (splice (List.replicate (336 + l.length) 0) 256 (bytesOf ⟨#[0, 195, 80, 1]⟩)) 308 (bytesOf s)).set 327 kd).set 328 rom).set 329 ram).take 336) 25)) 336 l) = some wv) :
  Calls Try.prog 52 #[.string s, .int .u8 kd, .int .u8 rom, .int .u8 ram, .slice A l.length c] w fun e' w' => ∃ v0_ : Value, e' = .returned (.tuple #[v0_, .int .i64 0]) ∧ Kd.R (Kd.int .u8) 5 w' w.heap.size (fun _ => True) v0_ (((splice (((((splice (splice (List.replicate (336 + l.length) 0) 256 (bytesOf ⟨#[0, 195, 80, 1]⟩)) 308 (bytesOf s)).set 327 kd).set 328 rom).set 329 ram).set 333 (sumTo (((((splice (splice (List.replicate (336 + l.length) 0) 256 (bytesOf ⟨#[0, 195, 80, 1]⟩)) 308 (bytesOf s)).set 327 kd).set 328 rom).set 329 ram).take 336) 25)) 336 l).set 334 (wv / 256 % 256)).set 335 (wv % 256)) ∧ Below w.heap.size w w' := by
 have hmf : ∀ (fn : Fn) (first cap : Array Value) (w : World), (Instr.makeFunc fn first cap).run Try.prog w = .ok (.func fn first cap) w := fun _ _ _ _ => rfl
 have HR := ab.mk hr
 clear hr
 go_enter_defers Try.func52, Try.ntmps52
 go_wp2_with fail
 have z1 := heap_alloc_new w (.cells #[.int .i64 0] 26)
 have z2 := ac (Below.refl w.heap.size w) (.cells #[.int .i64 0] 26)
 generalize w.alloc (.cells #[.int .i64 0] 26) = W0 at z1 z2 ⊢
 refine (bu 1 _).mono ?_
 rintro e' w' ⟨rfl, hw⟩
 replace hw := hw.symm
 subst hw
 go_wp2_with fail
 go_loopw [24] (fun i w' => ∃ (j : Nat), i = .int .i64 j ∧ ab (j ≤ s.size ∧ w'.heap[w.heap.size]? = some (.cells #[.int .i64 0] 26 (0, 0)) ∧ Below w.heap.size w w')) (fun i _ => 20 - (intOf i).toNat)
 case atStart => exact ⟨0, rfl, ab.mk ⟨by omega, z1, z2⟩⟩
 case round =>
  obtain ⟨j, rfl, HA⟩ := hrel
  obtain ⟨hj, z1, z2⟩ := HA.out
  clear HA
  by_cases hjJ : j = s.size
  ·have hpr' := hpr
   clear hpr
   have h16 : (j : Int) ≤ 16 := by omega
   have hge : ¬ (j : Int) < (s.size : Int) := by omega
   go_wp2_with fail
   refine (bL.calls kd hk _).mono ?_
   rintro e' w1 ⟨rfl, hb⟩
   have B1 := af z1 hb
   have B2 := Below.trans z2 (hb.mono z2.size)
   rw [hok]
   go_wp2_with fail
   refine (bu 4 _).mono ?_
   rintro e' w' ⟨rfl, rfl⟩
   have D1 := ah B1 (.cells #[.string ⟨#[]⟩, .int .u8 kd, .int .i64 (am kd).1, .bool (am kd).2.1, .bool (am kd).2.2.1, .bool (am kd).2.2.2.1, .int .i64 0, .int .i64 0, .int .u8 0, .int .u16 0] 30)
   have D2 := ac B2 (.cells #[.string ⟨#[]⟩, .int .u8 kd, .int .i64 (am kd).1, .bool (am kd).2.1, .bool (am kd).2.2.1, .bool (am kd).2.2.2.1, .int .i64 0, .int .i64 0, .int .u8 0, .int .u16 0] 30)
   generalize w1.alloc (.cells #[.string ⟨#[]⟩, .int .u8 kd, .int .i64 (am kd).1, .bool (am kd).2.1, .bool (am kd).2.2.1, .bool (am kd).2.2.2.1, .int .i64 0, .int .i64 0, .int .u8 0, .int .u16 0] 30) = W1 at D1 D2 ⊢
   clear z1 z2 B1 B2 hb
   go_wp2_with fail
   (with_reducible refine (bH.calls rom _ _ (by unfold bH.f; rw [if_pos h80])).mono ?_)
   rintro e' w' ⟨rfl, ⟨nd, rfl⟩⟩
   go_wp2_with fail
   refine (bu 5 _).mono ?_
   rintro e' w' ⟨rfl, rfl⟩
   have E1 := au D1 nd
   have E2 := ai D2 nd
   generalize W1.drewN nd = W2 at E1 E2 ⊢
   clear D1 D2
   have hn : (l.length : Int) ≤ 8388272 := Int.le_trans (of_decide_eq_true hm) (most_le rom h80 (of_decide_eq_true h8))
   have hw1 : wrap64 (336 + (l.length : Int)) = 336 + (l.length : Int) := by unfold wrap64; omega
   have hgt : w.heap.size < W2.heap.size := aZ E1
   obtain ⟨w3, hmk, R3, K3, B3⟩ := makeRow W2 l.length hn
   have E1 := K3 _ _ _ E1
   have E2 := B3 w E2
   generalize W2.heap.size = g at hgt hmk R3
   have hne : ¬ w.heap.size = g := by omega
   have hz1 : (List.replicate (336 + l.length) (0 : Int)).length = 336 + l.length := by simp
   obtain ⟨w4, hc4, R4, K4, B4⟩ := R3.copyStr 256 80 ⟨#[0, 195, 80, 1]⟩ (by decide) (by rw [hz1]; show 256 + 4 ≤ _; omega)
   have hz2 : (splice (List.replicate (336 + l.length) 0) 256 (bytesOf ⟨#[0, 195, 80, 1]⟩)).length = 336 + l.length := by rw [length_splice _ _ _ (by rw [hz1, bytesOf_length]; show 256 + 4 ≤ _; omega), hz1]
   obtain ⟨w5, hc5, R5, K5, B5⟩ := R4.copyStr 308 28 s (by omega) (by rw [hz2]; omega)
   have hz3 : (splice (splice (List.replicate (336 + l.length) 0) 256 (bytesOf ⟨#[0, 195, 80, 1]⟩)) 308 (bytesOf s)).length = 336 + l.length := by rw [length_splice _ _ _ (by rw [hz2, bytesOf_length]; omega), hz2]
   have E1 := (K5 _ hne).trans ((K4 _ hne).trans E1)
   have E2 := B5 _ _ (by omega) (B4 _ _ (by omega) E2)
   have x327 := R5.cell 327 (by rw [hz3]; omega)
   have x328 := R5.cell 328 (by rw [hz3]; omega)
   have x329 := R5.cell 329 (by rw [hz3]; omega)
   have fz := fun i => R5.frozen i
   go_wp2_with fail
   have R6 := ((R5.put 327 kd).put 328 rom).put 329 ram
   have E1 : (((w5.setCell ⟨g, 327, none⟩ (.int .u8 kd)).setCell ⟨g, 328, none⟩ (.int .u8 rom)).setCell ⟨g, 329, none⟩ (.int .u8 ram)).heap[w.heap.size]? = some (.cells #[.int .i64 0] 26 (0, 0)) := al (al (al E1 hne _) hne _) hne _
   have E2 : Below w.heap.size w (((w5.setCell ⟨g, 327, none⟩ (.int .u8 kd)).setCell ⟨g, 328, none⟩ (.int .u8 rom)).setCell ⟨g, 329, none⟩ (.int .u8 ram)) := ag (ag (ag E2 (by omega)) (by omega)) (by omega)
   clear x327 x328 x329 fz hc4 hc5 hmk R3 R4 R5 K3 K4 K5 B3 B4 B5
   generalize (((w5.setCell ⟨g, 327, none⟩ (.int .u8 kd)).setCell ⟨g, 328, none⟩ (.int .u8 rom)).setCell ⟨g, 329, none⟩ (.int .u8 ram)) = w6 at R6 E1 E2 ⊢
   have hz4 : ((((splice (splice (List.replicate (336 + l.length) 0) 256 (bytesOf ⟨#[0, 195, 80, 1]⟩)) 308 (bytesOf s)).set 327 kd).set 328 rom).set 329 ram).length = 336 + l.length := by rw [List.length_set, List.length_set, List.length_set, hz3]
   have hl3 : (((((splice (splice (List.replicate (336 + l.length) 0) 256 (bytesOf ⟨#[0, 195, 80, 1]⟩)) 308 (bytesOf s)).set 327 kd).set 328 rom).set 329 ram).take 336).length = 336 := by rw [List.length_take, hz4]; omega
   have q := bU.calls (some ⟨g, 0, none⟩) (336 + l.length) (((((splice (splice (List.replicate (336 + l.length) 0) 256 (bytesOf ⟨#[0, 195, 80, 1]⟩)) 308 (bytesOf s)).set 327 kd).set 328 rom).set 329 ram).take 336) (sumTo (((((splice (splice (List.replicate (336 + l.length) 0) 256 (bytesOf ⟨#[0, 195, 80, 1]⟩)) 308 (bytesOf s)).set 327 kd).set 328 rom).set 329 ram).take 336) 25) w6 (by rw [hl3]; exact R6.reads 336 (by omega) (by omega)) (by rw [hl3]; omega) (by unfold bU.f; rw [if_pos (by rw [hl3]; omega)])
   rw [hl3] at q
   refine q.mono ?_
   clear q
   rintro e' w' ⟨rfl, hw⟩
   replace hw := hw.symm
   subst hw
   have x333 := R6.cell 333 (by rw [hz4]; omega)
   have fz := fun i => R6.frozen i
   have R7 := R6.put 333 (sumTo (((((splice (splice (List.replicate (336 + l.length) 0) 256 (bytesOf ⟨#[0, 195, 80, 1]⟩)) 308 (bytesOf s)).set 327 kd).set 328 rom).set 329 ram).take 336) 25)
   have E1 := al (p := ⟨g, 333, none⟩) E1 hne (.int .u8 (sumTo (((((splice (splice (List.replicate (336 + l.length) 0) 256 (bytesOf ⟨#[0, 195, 80, 1]⟩)) 308 (bytesOf s)).set 327 kd).set 328 rom).set 329 ram).take 336) 25))
   have E2 := ag (j := 333) (v := .int .u8 (sumTo (((((splice (splice (List.replicate (336 + l.length) 0) 256 (bytesOf ⟨#[0, 195, 80, 1]⟩)) 308 (bytesOf s)).set 327 kd).set 328 rom).set 329 ram).take 336) 25)) E2 (show w.heap.size ≤ g by omega)
   have hz7 : (((((splice (splice (List.replicate (336 + l.length) 0) 256 (bytesOf ⟨#[0, 195, 80, 1]⟩)) 308 (bytesOf s)).set 327 kd).set 328 rom).set 329 ram).set 333 (sumTo (((((splice (splice (List.replicate (336 + l.length) 0) 256 (bytesOf ⟨#[0, 195, 80, 1]⟩)) 308 (bytesOf s)).set 327 kd).set 328 rom).set 329 ram).take 336) 25)).length = 336 + l.length := by rw [List.length_set, hz4]
   obtain ⟨w8, ha, R8, K8, B8⟩ := R7.append 336 (336 + l.length) A c l (Kd.C_below HR.out E2) (Nat.le_refl _) (by rw [hz7]; omega)
   have E1 := (K8 _ hne).trans E1
   have E2 := B8 _ _ (by omega) E2
   have hz8 : (splice (((((splice (splice (List.replicate (336 + l.length) 0) 256 (bytesOf ⟨#[0, 195, 80, 1]⟩)) 308 (bytesOf s)).set 327 kd).set 328 rom).set 329 ram).set 333 (sumTo (((((splice (splice (List.replicate (336 + l.length) 0) 256 (bytesOf ⟨#[0, 195, 80, 1]⟩)) 308 (bytesOf s)).set 327 kd).set 328 rom).set 329 ram).take 336) 25)) 336 l).length = 336 + l.length := by rw [length_splice _ _ _ (by rw [hz7]; omega), hz7]
   go_wp2_with (at_builtin; refine wpList_append_run rfl _ _ 22 rfl _ _ _ rfl rfl ha ?_)
   have q := bw.calls kW (some ⟨g, 0, none⟩) (336 + l.length) (splice (((((splice (splice (List.replicate (336 + l.length) 0) 256 (bytesOf ⟨#[0, 195, 80, 1]⟩)) 308 (bytesOf s)).set 327 kd).set 328 rom).set 329 ram).set 333 (sumTo (((((splice (splice (List.replicate (336 + l.length) 0) 256 (bytesOf ⟨#[0, 195, 80, 1]⟩)) 308 (bytesOf s)).set 327 kd).set 328 rom).set 329 ram).take 336) 25)) 336 l) wv w8 (by rw [hz8]; have z := R8.reads (336 + l.length) (by omega) (by omega); rwa [List.take_of_length_le (by omega)] at z) (by rw [hz8]; omega) hW
   rw [hz8] at q
   refine q.mono ?_
   clear q
   rintro e' w' ⟨rfl, ⟨nW, rfl⟩⟩
   have R9 : RowL (w8.drewN nW) g (splice (((((splice (splice (List.replicate (336 + l.length) 0) 256 (bytesOf ⟨#[0, 195, 80, 1]⟩)) 308 (bytesOf s)).set 327 kd).set 328 rom).set 329 ram).set 333 (sumTo (((((splice (splice (List.replicate (336 + l.length) 0) 256 (bytesOf ⟨#[0, 195, 80, 1]⟩)) 308 (bytesOf s)).set 327 kd).set 328 rom).set 329 ram).take 336) 25)) 336 l) := au R8 nW
   have E1 := au E1 nW
   have E2 := ai E2 nW
   clear ha R6 R7 R8 K8 B8 x333 fz
   generalize w8.drewN nW = w9 at R9 E1 E2 ⊢
   have x334 := R9.cell 334 (by rw [hz8]; omega)
   have x335 := R9.cell 335 (by rw [hz8]; omega)
   have fz := fun i => R9.frozen i
   have e0 : w9.cell? ⟨w.heap.size, 0, none⟩ = some (.int .i64 0) := (aa E1 0).trans rfl
   have fe := fun i => ae E1 i
   have hne2 : ¬ g = w.heap.size := by omega
   have hwa : (334 : Int) < 336 + (l.length : Int) := by omega
   have hwb : (335 : Int) < 336 + (l.length : Int) := by omega
   go_wp2_with fail
   have R10 := ((R9.put 334 (wv / 256 % 256)).put 335 (wv % 256)).far hne2 0 (.int .i64 0)
   have m1 : (((w9.setCell ⟨g, 334, none⟩ (.int .u8 (wv / 256 % 256))).setCell ⟨g, 335, none⟩ (.int .u8 (wv % 256))).setCell ⟨w.heap.size, 0, none⟩ (.int .i64 0)).heap[w.heap.size]? = some (.cells #[.int .i64 0] 26 (0, 0)) := an (al (al E1 hne _) hne _) 0 _ rfl
   have m2 : Below w.heap.size w (((w9.setCell ⟨g, 334, none⟩ (.int .u8 (wv / 256 % 256))).setCell ⟨g, 335, none⟩ (.int .u8 (wv % 256))).setCell ⟨w.heap.size, 0, none⟩ (.int .i64 0)) := ag (ag (ag E2 (by omega)) (by omega)) (Nat.le_refl _)
   clear x334 x335 fz e0 fe hwa hwb E1 E2 R9
   generalize (((w9.setCell ⟨g, 334, none⟩ (.int .u8 (wv / 256 % 256))).setCell ⟨g, 335, none⟩ (.int .u8 (wv % 256))).setCell ⟨w.heap.size, 0, none⟩ (.int .i64 0)) = Y at R10 m1 m2 ⊢
   have v0 : Y.cell? ⟨w.heap.size, 0, none⟩ = some (.int .i64 0) := (aa m1 0).trans rfl
   have hz10 : (((splice (((((splice (splice (List.replicate (336 + l.length) 0) 256 (bytesOf ⟨#[0, 195, 80, 1]⟩)) 308 (bytesOf s)).set 327 kd).set 328 rom).set 329 ram).set 333 (sumTo (((((splice (splice (List.replicate (336 + l.length) 0) 256 (bytesOf ⟨#[0, 195, 80, 1]⟩)) 308 (bytesOf s)).set 327 kd).set 328 rom).set 329 ram).take 336) 25)) 336 l).set 334 (wv / 256 % 256)).set 335 (wv % 256)).length = 336 + l.length := by rw [List.length_set, List.length_set, hz8]
   have hv := R10.row (base := w.heap.size) (by omega) (by rw [hz10]; simp only [maxLen]; omega)
   rw [hz10] at hv
   refine leaves_cons (f := 77) (args := #[.pointer (some ⟨w.heap.size, 0, none⟩)]) (by simp) (by simp [go_sem]) ?_
   refine (make_idle ⟨w.heap.size, 0, none⟩ _).mono ?_
   rintro e u' w'' ⟨rfl, rfl, rfl⟩
   simp [Leaves, settle, results, Try.results52, go_sem, v0]
   exact ⟨hv, m2⟩

  have hb := hpr j (by omega)
  have p9 : 0 ≤ (j : Int) := by omega
  have q9 : (j : Int) < (s.size : Int) := by omega
  have hx9 := bt_at s (j : Int)
  have q9' := q9
  replace p9 := eq_true p9
  replace q9 := eq_true q9
  have hjs : j < s.size := by omega
  have hbt : bt s (j : Int) = ((s[j]'hjs).toNat : Int) := by simp [bt, hjs]
  rw [hbt] at hb
  clear hx9
  go_wp2_with fail
  (with_reducible refine (bj.calls _ _ _ (prb_calls _)).mono ?_)
  rintro e' w' ⟨rfl, ⟨nd, rfl⟩⟩
  rw [hb]
  go_wp2_with fail
  refine (bu 1 _).mono ?_
  rintro e' w' ⟨rfl, rfl⟩
  go_wp2_with fail
  exact ⟨⟨j + 1, by simp, ab.mk ⟨by omega, au z1 nd, ai z2 nd⟩⟩, by simp [intOf]; omega⟩
end Go.Proofs.Ytmjjojbedllmgaa.Hand
