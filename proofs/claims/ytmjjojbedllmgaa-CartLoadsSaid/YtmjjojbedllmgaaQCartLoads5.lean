/- The statement CartLoads: for every input the law returns true and each argument reads as before. (Packed by pack.py out of this session's texts.) -/
import Derived.Deep.RegionHeld3
import Derived.Handy
import Derived.Test.YtmjjojbedllmgaaRows
import Derived.Test.YtmjjojbedllmgaaQCartLoads0
import Derived.Test.YtmjjojbedllmgaaQCartLoads4
section
namespace Go.Proofs.Ytmjjojbedllmgaa.Hand
open Go.RowKit
open Go.Proofs.Ytmjjojbedllmgaa.G
open Go.Proofs.YtmjjojbedllmgaaW.PrintWords Go.Proofs.YtmjjojbedllmgaaW.PrintLast Go.Proofs.YtmjjojbedllmgaaW.PrintMore
theorem i32_w (n : Int) : IntKind.i32.wrap n = Go.RowKit.wrap32 n := by unfold Go.RowKit.wrap32; exact IntKind.wrap_i32 n
set_option linter.unusedVariables false
set_option linter.unusedSimpArgs false
set_option maxRecDepth 100000
def loads12.T : Bool × List (List Nat × List Nat) := (true, [([], []), ([0], [0]), ([1], [1]), ([2, 1, 1], [1, 2]), ([3, 1], [1, 3]), ([1, 4], [1, 4]), ([5, 3], [5]), ([6], [6]), ([7, 6], [6, 7]), ([6], [6]), ([8, 9, 6], [6, 8, 9]), ([6, 10], [6, 10]), ([11, 6], [11]), ([12], [12]), ([13, 12, 12], [12, 13]), ([14, 12], [12, 14]), ([12], [12]), ([16, 12], [12, 16]), ([15, 17, 12], [12, 15, 17]), ([12, 18], [12, 18]), ([19, 14], [19]), ([20], [20]), ([20], [20]), ([21, 22, 20], [20, 21, 22]), ([20, 23], [20, 23]), ([24, 20, 0, 1, 2, 3, 4, 5, 6, 7, 8, 9, 10, 11, 12, 13, 14, 15, 16, 17, 18, 19, 20, 21, 22, 23, 24], [24])])
def loads12.B : List Nat := [0, 1, 3, 7, 15, 31, 63, 127, 255, 127, 1023, 2047, 4095, 8191, 16383, 32767, 8191, 73727, 262143, 524287, 1048575, 2097151, 2097151, 8388607, 16777215, 33554431]
theorem loads12.tab : rtab .any (opsOf Try.f7 12) = loads12.T := by kernel_rfl
theorem loads12.bits : waitsOk loads12.T.2 loads12.B = true := by kernel_rfl
def loads13.T : Bool × List (List Nat × List Nat) := (true, [([], []), ([0], [0]), ([1], [1]), ([2, 1], [1, 2]), ([1], [1]), ([4, 1, 1], [1, 4]), ([5, 1], [1, 5]), ([6, 1], [1, 6]), ([3, 7, 1], [1, 3, 7]), ([1, 8], [1, 8]), ([9, 5], [9]), ([10], [10]), ([11, 10], [10, 11]), ([12, 10, 10], [10, 12]), ([13], [13]), ([14, 13], [13, 14]), ([13], [13]), ([16, 13], [13, 16]), ([13], [13]), ([17, 18, 13], [13, 17, 18]), ([15, 19, 13], [13, 15, 19]), ([13, 20, 10], [10, 13, 20]), ([10, 21], [10, 21]), ([22, 13], [22]), ([23], [23]), ([24, 23, 23], [23, 24]), ([25, 23], [23, 25]), ([23], [23]), ([27, 23], [23, 27]), ([26, 28, 23], [23, 26, 28]), ([23, 29], [23, 29]), ([30, 25], [30]), ([31], [31]), ([31], [31]), ([32, 33, 31], [31, 32, 33]), ([31, 34], [31, 34]), ([35, 31], [35]), ([36], [36]), ([36], [36]), ([37, 38, 36], [36, 37, 38]), ([36, 39], [36, 39]), ([40, 36], [40]), ([41], [41]), ([41], [41]), ([42, 43, 41], [41, 42, 43]), ([41, 44], [41, 44]), ([45, 41, 0, 1, 2, 3, 4, 5, 6, 7, 8, 9, 10, 11, 12, 13, 14, 15, 16, 17, 18, 19, 20, 21, 22, 23, 24, 25, 26, 27, 28, 29, 30, 31, 32, 33, 34, 35, 36, 37, 38, 39, 40, 41, 42, 43, 44, 45], [45])])
def loads13.B : List Nat := [0, 1, 3, 7, 3, 19, 51, 115, 255, 511, 1023, 2047, 4095, 8191, 16383, 32767, 16383, 81919, 16383, 475135, 1048575, 2097151, 4194303, 8388607, 16777215, 33554431, 67108863, 16777215, 150994943, 536870911, 1073741823, 2147483647, 4294967295, 4294967295, 17179869183, 34359738367, 68719476735, 137438953471, 137438953471, 549755813887, 1099511627775, 2199023255551, 4398046511103, 4398046511103, 17592186044415, 35184372088831, 70368744177663]
theorem loads13.tab : rtab .any (opsOf Try.f7 13) = loads13.T := by kernel_rfl
theorem loads13.bits : waitsOk loads13.T.2 loads13.B = true := by kernel_rfl
set_option maxHeartbeats 8000000 in
theorem loads_no (A0 : Option Addr) (c0 : Nat) (l0 : List Int) (v1 v2 : Value) (w : World) (hr0 : Kd.C (Kd.int .u8) w A0 l0.length l0) (hc0 : l0.length ≤ c0) (hb0 : Bytes l0) (he : ¬ headE l0 = 0) :
    Calls Try.prog 7 #[.slice A0 l0.length c0, v1, v2] w fun e w' => e = .returned (.bool true) ∧ Below w.heap.size w w' := by
  have HR := Aside0.mk hr0
  have HC := Aside0.mk hc0
  have HBY := Aside0.mk hb0
  clear hr0 hc0 hb0
  go_enter Try.func7, Try.ntmps7
  go_wp2_with fail
  refine (shown_at _).mono ?_
  rintro e' w1 ⟨rfl, hb⟩
  have HB := Aside0.mk hb
  clear hb
  go_wp2_with fail
  refine (new_no A0 c0 l0 w1 (Kd.C_below HR.out HB.out) HC.out HBY.out he).mono ?_
  rintro e' w2 ⟨rfl, hb⟩
  have HB2 := Aside0.mk (below_step HB.out hb)
  clear hb HB
  go_wp2
  go_returns
  exact ⟨rfl, HB2.out⟩
set_option maxHeartbeats 8000000 in
theorem loads_ok (A0 : Option Addr) (c0 : Nat) (l0 : List Int) (A1 : Option Addr) (c1 : Nat) (l1 : List Act1) (A2 : Option Addr) (c2 : Nat) (l2 : List Int) (w : World) (hr0 : Kd.C (Kd.int .u8) w A0 l0.length l0) (hc0 : l0.length ≤ c0) (hb0 : Bytes l0) (hr1 : ActsAt w A1 l1) (hc1 : l1.length ≤ c1) (hr2 : Kd.C (Kd.int .u8) w A2 l2.length l2) (hc2 : l2.length ≤ c2) (hb2 : Bytes l2) (he : headE l0 = 0) :
    Calls Try.prog 7 #[.slice A0 l0.length c0, .slice A1 l1.length c1, .slice A2 l2.length c2] w fun e w' => e = .returned (.bool true) ∧ Below w.heap.size w w' := by
  obtain ⟨s1, hs1⟩ : ∃ s1, s1 = doesS (newC l0) (l1.take 60) := ⟨_, rfl⟩
  have ok1 : s1.Ok := by rw [hs1]; exact (newC_ok hb0 he).does _ (fun y hy => hr1.oks y (List.mem_of_mem_take hy))
  have nm1 : Pure.Nm s1 := by rw [hs1]; exact Pure.Nm.new.does _ (fun y hy => hr1.oks y (List.mem_of_mem_take hy))
  have HR0 := Aside0.mk hr0
  have HC0 := Aside0.mk hc0
  have HB0 := Aside0.mk hb0
  have HR1 := Aside0.mk hr1
  have HC1 := Aside0.mk hc1
  have HR2 := Aside0.mk hr2
  have HC2 := Aside0.mk hc2
  have HB2 := Aside0.mk hb2
  have HE := Aside0.mk he
  have OK := Aside0.mk ok1
  have NM := Aside0.mk nm1
  have HS := Aside0.mk hs1
  obtain ⟨s2, hs2⟩ : ∃ s2, s2 = s1.loadS l2 := ⟨_, rfl⟩
  have HS2 := Aside0.mk hs2
  have ok2 : s2.Ok := by rw [hs2]; exact ok1.load l2
  have OK2 := Aside0.mk ok2
  have hsm : s2.mp = s1.mp := by rw [hs2]; exact (load_keeps s1 l2).2.2.2
  have HSM := Aside0.mk hsm
  clear hs2 ok2 hsm
  have hl2 : l2.length ≤ 9223372036854775807 := hr2.2.1
  clear hr0 hc0 hb0 hr1 hc1 hr2 hc2 hb2 he ok1 nm1 hs1
  go_enter Try.func7, Try.ntmps7
  go_wp2_with fail
  refine (shown_at _).mono ?_
  rintro e' w1 ⟨rfl, hb⟩
  have HB := Aside0.mk hb
  clear hb
  go_wp2_with fail
  refine (new_at A0 c0 l0 w1 (Kd.C_below HR0.out HB.out) HC0.out HB0.out HE.out).mono ?_
  rintro e' w2 ⟨a, rfl, hCa, ha1, ha2, ha3, hb⟩
  have CA := Aside0.mk hCa
  have HA := Aside0.mk (show w.heap.size ≤ a.b ∧ w.heap.size ≤ a.gr from ⟨Nat.le_trans HB.out.size ha1, Nat.le_trans HB.out.size ha3⟩)
  have HB3 := Aside0.mk (below_step HB.out hb)
  clear hCa ha1 ha2 ha3 hb HB
  go_wp2_with fail
  refine (does_at CA.out (newC_ok HB0.out HE.out) A1 c1 l1 HR1.out HC1.out HB3.out HA.out.1 HA.out.2).mono ?_
  rintro e' w3 ⟨rfl, hC, hu⟩
  have CA1 := Aside0.mk (show CartAt w3 a s1 from by rw [HS.out]; exact hC)
  have HB4 := Aside0.mk (upto_step HB3.out (Nat.le_refl _) hu HA.out.1 HA.out.2)
  clear hC hu CA HB3
  have LB := Aside0.mk (CA1.out.ltb)
  have LR := Aside0.mk (CA1.out.ltr)
  go_wp2_with fail
  refine (ram_at CA1.out OK.out.r1).mono ?_
  rintro e' w4 ⟨v0, rfl, hR, hb⟩
  obtain ⟨A5, c5, rfl, hH⟩ := held_of_R hR
  have PB := Aside0.mk (show a.b < w3.heap.size ∧ a.gr < w3.heap.size from ⟨LB.out, LR.out⟩)
  have CA1_ := Aside0.mk (CA1.out.below hb)
  have HB4_ := Aside0.mk (below_step HB4.out hb)
  have LB_ := Aside0.mk (Nat.lt_of_lt_of_le LB.out hb.size)
  have LR_ := Aside0.mk (Nat.lt_of_lt_of_le LR.out hb.size)
  clear CA1 HB4 LB LR
  have CA1 := CA1_
  have HB4 := HB4_
  have LB := LB_
  have LR := LR_
  clear CA1_ HB4_ LB_ LR_
  have HH := Aside0.mk (hH)
  clear hb hR hH
  go_wp2_with fail
  refine (state_as CA1.out s1.mp s1.lv s1.hd rfl rfl rfl).mono ?_
  rintro e' w5 ⟨rfl, hb⟩
  have CA1_ := Aside0.mk (CA1.out.below hb)
  have HB4_ := Aside0.mk (below_step HB4.out hb)
  have LB_ := Aside0.mk (Nat.lt_of_lt_of_le LB.out hb.size)
  have LR_ := Aside0.mk (Nat.lt_of_lt_of_le LR.out hb.size)
  have HH_ := Aside0.mk (HH.out.below hb)
  clear CA1 HB4 LB LR HH
  have CA1 := CA1_
  have HB4 := HB4_
  have LB := LB_
  have LR := LR_
  have HH := HH_
  clear CA1_ HB4_ LB_ LR_ HH_
  clear hb
  have P1 := Aside0.mk (show a.b < w5.heap.size ∧ a.gr < w5.heap.size from ⟨LB.out, LR.out⟩)
  go_wp2_with fail
  have b0 := blk_alloc (blk_alloc (blk_new w5 (.cells #[.int .i64 s1.mp.k, .bool s1.mp.o, .int .u8 s1.mp.l, .int .u8 s1.mp.h, .int .u8 s1.mp.r, .bool s1.mp.md] 32)) (.cells #[.int .u8 s1.lv.s, .int .u8 s1.lv.m, .int .u8 s1.lv.h, .int .u16 s1.lv.d, .bool s1.lv.ht, .bool s1.lv.cy] 34)) (.cells #[.int .u8 s1.hd.s, .int .u8 s1.hd.m, .int .u8 s1.hd.h, .int .u16 s1.hd.d, .bool s1.hd.ht, .bool s1.hd.cy] 34)
  have b1 := blk_alloc (blk_at2 w5 (.cells #[.int .i64 s1.mp.k, .bool s1.mp.o, .int .u8 s1.mp.l, .int .u8 s1.mp.h, .int .u8 s1.mp.r, .bool s1.mp.md] 32) (.cells #[.int .u8 s1.lv.s, .int .u8 s1.lv.m, .int .u8 s1.lv.h, .int .u16 s1.lv.d, .bool s1.lv.ht, .bool s1.lv.cy] 34)) (.cells #[.int .u8 s1.hd.s, .int .u8 s1.hd.m, .int .u8 s1.hd.h, .int .u16 s1.hd.d, .bool s1.hd.ht, .bool s1.hd.cy] 34)
  have b2 := blk_at3 w5 (.cells #[.int .i64 s1.mp.k, .bool s1.mp.o, .int .u8 s1.mp.l, .int .u8 s1.mp.h, .int .u8 s1.mp.r, .bool s1.mp.md] 32) (.cells #[.int .u8 s1.lv.s, .int .u8 s1.lv.m, .int .u8 s1.lv.h, .int .u16 s1.lv.d, .bool s1.lv.ht, .bool s1.lv.cy] 34) (.cells #[.int .u8 s1.hd.s, .int .u8 s1.hd.m, .int .u8 s1.hd.h, .int .u16 s1.hd.d, .bool s1.hd.ht, .bool s1.hd.cy] 34)
  have hb := below_alloc (below_alloc (below_alloc (Below.refl w5.heap.size w5) (.cells #[.int .i64 s1.mp.k, .bool s1.mp.o, .int .u8 s1.mp.l, .int .u8 s1.mp.h, .int .u8 s1.mp.r, .bool s1.mp.md] 32)) (.cells #[.int .u8 s1.lv.s, .int .u8 s1.lv.m, .int .u8 s1.lv.h, .int .u16 s1.lv.d, .bool s1.lv.ht, .bool s1.lv.cy] 34)) (.cells #[.int .u8 s1.hd.s, .int .u8 s1.hd.m, .int .u8 s1.hd.h, .int .u16 s1.hd.d, .bool s1.hd.ht, .bool s1.hd.cy] 34)
  generalize ((w5.alloc (.cells #[.int .i64 s1.mp.k, .bool s1.mp.o, .int .u8 s1.mp.l, .int .u8 s1.mp.h, .int .u8 s1.mp.r, .bool s1.mp.md] 32)).alloc (.cells #[.int .u8 s1.lv.s, .int .u8 s1.lv.m, .int .u8 s1.lv.h, .int .u16 s1.lv.d, .bool s1.lv.ht, .bool s1.lv.cy] 34)).alloc (.cells #[.int .u8 s1.hd.s, .int .u8 s1.hd.m, .int .u8 s1.hd.h, .int .u16 s1.hd.d, .bool s1.hd.ht, .bool s1.hd.cy] 34) = w6 at b0 b1 b2 hb ⊢
  have CA1_ := Aside0.mk (CA1.out.below hb)
  have HB4_ := Aside0.mk (below_step HB4.out hb)
  have LB_ := Aside0.mk (Nat.lt_of_lt_of_le LB.out hb.size)
  have LR_ := Aside0.mk (Nat.lt_of_lt_of_le LR.out hb.size)
  have HH_ := Aside0.mk (HH.out.below hb)
  clear CA1 HB4 LB LR HH
  have CA1 := CA1_
  have HB4 := HB4_
  have LB := LB_
  have LR := LR_
  have HH := HH_
  clear CA1_ HB4_ LB_ LR_ HH_
  clear hb
  have B1 := Aside0.mk (b0)
  have B2 := Aside0.mk (b1)
  have B3 := Aside0.mk (b2)
  clear b0 b1 b2
  refine (save_at CA1.out OK.out).mono ?_
  rintro e' w7 ⟨v0, rfl, hR, hb⟩
  have CA1_ := Aside0.mk (CA1.out.below hb)
  have HB4_ := Aside0.mk (below_step HB4.out hb)
  have LB_ := Aside0.mk (Nat.lt_of_lt_of_le LB.out hb.size)
  have LR_ := Aside0.mk (Nat.lt_of_lt_of_le LR.out hb.size)
  have HH_ := Aside0.mk (HH.out.below hb)
  have B1_ := Aside0.mk (blk_below B1.out hb)
  have B2_ := Aside0.mk (blk_below B2.out hb)
  have B3_ := Aside0.mk (blk_below B3.out hb)
  clear CA1 HB4 LB LR HH B1 B2 B3
  have CA1 := CA1_
  have HB4 := HB4_
  have LB := LB_
  have LR := LR_
  have HH := HH_
  have B1 := B1_
  have B2 := B2_
  have B3 := B3_
  clear CA1_ HB4_ LB_ LR_ HH_ B1_ B2_ B3_
  obtain ⟨A6, c6, rfl, hH⟩ := held_of_R hR
  clear hb hR hH
  go_wp2_with fail
  refine (load_old CA1.out OK.out A2 c2 l2 HR2.out HC2.out HB4.out HA.out.1).mono ?_
  rintro e' w8 ⟨rfl, hC, hu⟩
  have CA1_ := Aside0.mk ((show CartAt w8 a s2 from by rw [HS2.out]; exact hC))
  have HB4_ := Aside0.mk (upto_step HB4.out (Nat.le_refl _) hu HA.out.1 HA.out.2)
  have LB_ := Aside0.mk (Nat.lt_of_lt_of_le LB.out hu.size)
  have LR_ := Aside0.mk (Nat.lt_of_lt_of_le LR.out hu.size)
  have HH_ := Aside0.mk (HH.out.upto hu (by have q_ := PB.out; rintro k (q | q) <;> omega))
  have B1_ := Aside0.mk (hu.blk B1.out (by have q_ := P1.out; rintro (q | q) <;> omega))
  have B2_ := Aside0.mk (hu.blk B2.out (by have q_ := P1.out; rintro (q | q) <;> omega))
  have B3_ := Aside0.mk (hu.blk B3.out (by have q_ := P1.out; rintro (q | q) <;> omega))
  clear CA1 HB4 LB LR HH B1 B2 B3
  have CA1 := CA1_
  have HB4 := HB4_
  have LB := LB_
  have LR := LR_
  have HH := HH_
  have B1 := B1_
  have B2 := B2_
  have B3 := B3_
  clear CA1_ HB4_ LB_ LR_ HH_ B1_ B2_ B3_
  clear hC hu
  by_cases hz : s1.loadE l2 = 0
  case pos =>
    obtain ⟨hsv, hln⟩ := Pure.saved NM.out HB2.out hz
    have hbt := (Pure.load_zero hz).1
    rw [← HS2.out] at hsv
    have hbt2 : s2.hdr.bt = true := by rw [HS2.out, (load_keeps s1 l2).2.2.1]; exact hbt
    rw [hz]
    have HSV := Aside0.mk hsv
    have HBT := Aside0.mk hbt2
    have hlen : (s1.saveL.length : Int) = (l2.length : Int) := by omega
    rw [hlen]
    clear hsv hbt hbt2 hln hz hlen
    go_wp2_with fail
    refine (state_as CA1.out s1.mp s2.lv s2.hd HSM.out rfl rfl).mono ?_
    rintro e' w9 ⟨rfl, hb⟩
    have CA1_ := Aside0.mk (CA1.out.below hb)
    have HB4_ := Aside0.mk (below_step HB4.out hb)
    have LB_ := Aside0.mk (Nat.lt_of_lt_of_le LB.out hb.size)
    have LR_ := Aside0.mk (Nat.lt_of_lt_of_le LR.out hb.size)
    have HH_ := Aside0.mk (HH.out.below hb)
    have B1_ := Aside0.mk (blk_below B1.out hb)
    have B2_ := Aside0.mk (blk_below B2.out hb)
    have B3_ := Aside0.mk (blk_below B3.out hb)
    clear CA1 HB4 LB LR HH B1 B2 B3
    have CA1 := CA1_
    have HB4 := HB4_
    have LB := LB_
    have LR := LR_
    have HH := HH_
    have B1 := B1_
    have B2 := B2_
    have B3 := B3_
    clear CA1_ HB4_ LB_ LR_ HH_ B1_ B2_ B3_
    clear hb
    have P2 := Aside0.mk (show a.b < w9.heap.size ∧ a.gr < w9.heap.size from ⟨LB.out, LR.out⟩)
    go_wp2_with fail
    have b0 := blk_alloc (blk_alloc (blk_new w9 (.cells #[.int .i64 s1.mp.k, .bool s1.mp.o, .int .u8 s1.mp.l, .int .u8 s1.mp.h, .int .u8 s1.mp.r, .bool s1.mp.md] 32)) (.cells #[.int .u8 s2.lv.s, .int .u8 s2.lv.m, .int .u8 s2.lv.h, .int .u16 s2.lv.d, .bool s2.lv.ht, .bool s2.lv.cy] 34)) (.cells #[.int .u8 s2.hd.s, .int .u8 s2.hd.m, .int .u8 s2.hd.h, .int .u16 s2.hd.d, .bool s2.hd.ht, .bool s2.hd.cy] 34)
    have b1 := blk_alloc (blk_at2 w9 (.cells #[.int .i64 s1.mp.k, .bool s1.mp.o, .int .u8 s1.mp.l, .int .u8 s1.mp.h, .int .u8 s1.mp.r, .bool s1.mp.md] 32) (.cells #[.int .u8 s2.lv.s, .int .u8 s2.lv.m, .int .u8 s2.lv.h, .int .u16 s2.lv.d, .bool s2.lv.ht, .bool s2.lv.cy] 34)) (.cells #[.int .u8 s2.hd.s, .int .u8 s2.hd.m, .int .u8 s2.hd.h, .int .u16 s2.hd.d, .bool s2.hd.ht, .bool s2.hd.cy] 34)
    have b2 := blk_at3 w9 (.cells #[.int .i64 s1.mp.k, .bool s1.mp.o, .int .u8 s1.mp.l, .int .u8 s1.mp.h, .int .u8 s1.mp.r, .bool s1.mp.md] 32) (.cells #[.int .u8 s2.lv.s, .int .u8 s2.lv.m, .int .u8 s2.lv.h, .int .u16 s2.lv.d, .bool s2.lv.ht, .bool s2.lv.cy] 34) (.cells #[.int .u8 s2.hd.s, .int .u8 s2.hd.m, .int .u8 s2.hd.h, .int .u16 s2.hd.d, .bool s2.hd.ht, .bool s2.hd.cy] 34)
    have hb := below_alloc (below_alloc (below_alloc (Below.refl w9.heap.size w9) (.cells #[.int .i64 s1.mp.k, .bool s1.mp.o, .int .u8 s1.mp.l, .int .u8 s1.mp.h, .int .u8 s1.mp.r, .bool s1.mp.md] 32)) (.cells #[.int .u8 s2.lv.s, .int .u8 s2.lv.m, .int .u8 s2.lv.h, .int .u16 s2.lv.d, .bool s2.lv.ht, .bool s2.lv.cy] 34)) (.cells #[.int .u8 s2.hd.s, .int .u8 s2.hd.m, .int .u8 s2.hd.h, .int .u16 s2.hd.d, .bool s2.hd.ht, .bool s2.hd.cy] 34)
    generalize ((w9.alloc (.cells #[.int .i64 s1.mp.k, .bool s1.mp.o, .int .u8 s1.mp.l, .int .u8 s1.mp.h, .int .u8 s1.mp.r, .bool s1.mp.md] 32)).alloc (.cells #[.int .u8 s2.lv.s, .int .u8 s2.lv.m, .int .u8 s2.lv.h, .int .u16 s2.lv.d, .bool s2.lv.ht, .bool s2.lv.cy] 34)).alloc (.cells #[.int .u8 s2.hd.s, .int .u8 s2.hd.m, .int .u8 s2.hd.h, .int .u16 s2.hd.d, .bool s2.hd.ht, .bool s2.hd.cy] 34) = w10 at b0 b1 b2 hb ⊢
    have CA1_ := Aside0.mk (CA1.out.below hb)
    have HB4_ := Aside0.mk (below_step HB4.out hb)
    have LB_ := Aside0.mk (Nat.lt_of_lt_of_le LB.out hb.size)
    have LR_ := Aside0.mk (Nat.lt_of_lt_of_le LR.out hb.size)
    have HH_ := Aside0.mk (HH.out.below hb)
    have B1_ := Aside0.mk (blk_below B1.out hb)
    have B2_ := Aside0.mk (blk_below B2.out hb)
    have B3_ := Aside0.mk (blk_below B3.out hb)
    clear CA1 HB4 LB LR HH B1 B2 B3
    have CA1 := CA1_
    have HB4 := HB4_
    have LB := LB_
    have LR := LR_
    have HH := HH_
    have B1 := B1_
    have B2 := B2_
    have B3 := B3_
    clear CA1_ HB4_ LB_ LR_ HH_ B1_ B2_ B3_
    clear hb
    have B4 := Aside0.mk (b0)
    have B5 := Aside0.mk (b1)
    have B6 := Aside0.mk (b2)
    clear b0 b1 b2
    have HD := Aside0.mk (below_drew1 (Below.refl w10.heap.size w10))
    have hfl := field_bt
    refine start_ (n := 26) (S := fun w' => w'.cell? ⟨w9.heap.size, 0, none⟩ = some (.int .i64 s1.mp.k) ∧ w'.cell? ⟨w9.heap.size, 1, none⟩ = some (.bool s1.mp.o) ∧ w'.cell? ⟨w9.heap.size, 2, none⟩ = some (.int .u8 s1.mp.l) ∧ w'.cell? ⟨w9.heap.size, 3, none⟩ = some (.int .u8 s1.mp.h) ∧ w'.cell? ⟨w9.heap.size, 4, none⟩ = some (.int .u8 s1.mp.r) ∧ w'.cell? ⟨w9.heap.size, 5, none⟩ = some (.bool s1.mp.md) ∧ w'.cell? ⟨w5.heap.size, 0, none⟩ = some (.int .i64 s1.mp.k) ∧ w'.cell? ⟨w5.heap.size, 1, none⟩ = some (.bool s1.mp.o) ∧ w'.cell? ⟨w5.heap.size, 2, none⟩ = some (.int .u8 s1.mp.l) ∧ w'.cell? ⟨w5.heap.size, 3, none⟩ = some (.int .u8 s1.mp.h) ∧ w'.cell? ⟨w5.heap.size, 4, none⟩ = some (.int .u8 s1.mp.r) ∧ w'.cell? ⟨w5.heap.size, 5, none⟩ = some (.bool s1.mp.md) ∧ (convert 22 9 (.slice A2 l2.length c2)).run Try.prog w' = .ok (.string (strOfNums l2)) w') (ds := []) #[false, false, false, false, false, false, false, false, false, false, false, false, false, false, false, false, false, false, false, false, false, false, false, false, false, false] (by kernel_rfl) rfl rfl ⟨(blk_cell (blk_below B4.out HD.out) 0).trans rfl, (blk_cell (blk_below B4.out HD.out) 1).trans rfl, (blk_cell (blk_below B4.out HD.out) 2).trans rfl, (blk_cell (blk_below B4.out HD.out) 3).trans rfl, (blk_cell (blk_below B4.out HD.out) 4).trans rfl, (blk_cell (blk_below B4.out HD.out) 5).trans rfl, (blk_cell (blk_below B1.out HD.out) 0).trans rfl, (blk_cell (blk_below B1.out HD.out) 1).trans rfl, (blk_cell (blk_below B1.out HD.out) 2).trans rfl, (blk_cell (blk_below B1.out HD.out) 3).trans rfl, (blk_cell (blk_below B1.out HD.out) 4).trans rfl, (blk_cell (blk_below B1.out HD.out) 5).trans rfl, C_text (c := c2) (Kd.C_below HR2.out (below_step HB4.out HD.out))⟩ (fun hHeld => ?_)
    refine with_tabW loads12.tab loads12.bits (fun HT_ HW_ => ?_)
    refine pure_ (i := 0) (N := some 57) (v := ?_) (a' := ?_) #[true, false, false, false, false, false, false, false, false, false, false, false, false, false, false, false, false, false, false, false, false, false, false, false, false, false] rfl rfl (any_of HT_.out (by kernel_rfl)) (fun _ _ _ h => h) (Or.inl ⟨by rfl, ?_⟩) ?_ ?_
    rotate_left
    · intro w'
      go_simp
      with_reducible rfl
    rotate_left
    · simp only [Act.put, List.setIfInBounds_toArray, List.set_cons_zero, List.set_cons_succ, i64_w, i32_w]
      rfl
    refine pure_ (i := 1) (N := some 58) (v := ?_) (a' := ?_) #[true, true, false, false, false, false, false, false, false, false, false, false, false, false, false, false, false, false, false, false, false, false, false, false, false, false] rfl rfl (any_of HT_.out (by kernel_rfl)) (fun _ _ _ h => h) (Or.inl ⟨by rfl, ?_⟩) ?_ ?_
    rotate_left
    · intro w'
      go_simp
      with_reducible rfl
    rotate_left
    · simp only [Act.put, List.setIfInBounds_toArray, List.set_cons_zero, List.set_cons_succ, i64_w, i32_w]
      rfl
    refine pure_ (i := 2) (N := some 59) (v := ?_) (a' := ?_) #[true, true, true, false, false, false, false, false, false, false, false, false, false, false, false, false, false, false, false, false, false, false, false, false, false, false] rfl rfl (any_of HT_.out (by kernel_rfl)) (fun _ _ _ h => h) (Or.inl ⟨by rfl, ?_⟩) ?_ ?_
    rotate_left
    · intro w'
      go_simp
      with_reducible rfl
    rotate_left
    · simp only [Act.put, List.setIfInBounds_toArray, List.set_cons_zero, List.set_cons_succ, i64_w, i32_w]
      rfl
    refine one_ (i := 3) (N := some 60) #[true, true, true, true, false, false, false, false, false, false, false, false, false, false, false, false, false, false, false, false, false, false, false, false, false, false] rfl rfl (one_of HT_.out (by kernel_rfl)) (by decide) (fun K hK => ?_)
    refine goes_ Try.func12 (by kernel_rfl) rfl #[a.p] (by rfl) rfl rfl (by (try simp only [List.map_toArray, List.map_cons, List.map_nil]); first | done | rfl) ?_
    refine (head_bt (CA1.out.below HD.out) true HBT.out).mono ?_
    rintro e' wy ⟨rfl, hb⟩
    have HX := Aside0.mk (below_step HD.out hb)
    clear hb
    refine ⟨_, rfl, ?_⟩
    refine hK.out _ _ ⟨(blk_cell (blk_below B4.out HX.out) 0).trans rfl, (blk_cell (blk_below B4.out HX.out) 1).trans rfl, (blk_cell (blk_below B4.out HX.out) 2).trans rfl, (blk_cell (blk_below B4.out HX.out) 3).trans rfl, (blk_cell (blk_below B4.out HX.out) 4).trans rfl, (blk_cell (blk_below B4.out HX.out) 5).trans rfl, (blk_cell (blk_below B1.out HX.out) 0).trans rfl, (blk_cell (blk_below B1.out HX.out) 1).trans rfl, (blk_cell (blk_below B1.out HX.out) 2).trans rfl, (blk_cell (blk_below B1.out HX.out) 3).trans rfl, (blk_cell (blk_below B1.out HX.out) 4).trans rfl, (blk_cell (blk_below B1.out HX.out) 5).trans rfl, C_text (c := c2) (Kd.C_below HR2.out (below_step HB4.out HX.out))⟩ (fun hHeld => ?_)
    clear hK K
    refine norm_ (a' := ?_) ?_ ?_
    rotate_left
    · show Act.put _ (some 60) _ = _
      simp only [Act.put, List.setIfInBounds_toArray, List.set_cons_zero, List.set_cons_succ, i64_w, i32_w]
      rfl
    refine pure_ (i := 4) (N := some 61) (v := ?_) (a' := ?_) #[true, true, true, true, true, false, false, false, false, false, false, false, false, false, false, false, false, false, false, false, false, false, false, false, false, false] rfl rfl (any_of HT_.out (by kernel_rfl)) (fun _ _ _ h => h) (Or.inl ⟨by rfl, ?_⟩) ?_ ?_
    rotate_left
    · intro w'
      go_simp
      with_reducible rfl
    rotate_left
    · simp only [Act.put, List.setIfInBounds_toArray, List.set_cons_zero, List.set_cons_succ, i64_w, i32_w]
      rfl
    refine pure_ (i := 5) (N := some 62) (v := ?_) (a' := ?_) #[true, true, true, true, true, true, false, false, false, false, false, false, false, false, false, false, false, false, false, false, false, false, false, false, false, false] rfl rfl (any_of HT_.out (by kernel_rfl)) (fun _ _ _ h => h) (Or.inl ⟨by rfl, ?_⟩) ?_ ?_
    rotate_left
    · intro w'
      go_simp
      with_reducible rfl
    rotate_left
    · simp only [Act.put, List.setIfInBounds_toArray, List.set_cons_zero, List.set_cons_succ, i64_w, i32_w]
      rfl
    refine pure_ (i := 6) (N := some 63) (v := ?_) (a' := ?_) #[true, true, true, true, true, true, true, false, false, false, false, false, false, false, false, false, false, false, false, false, false, false, false, false, false, false] rfl rfl (any_of HT_.out (by kernel_rfl)) (fun _ _ _ h => h) (Or.inl ⟨by rfl, ?_⟩) ?_ ?_
    rotate_left
    · intro w'
      go_simp
      with_reducible rfl
    rotate_left
    · simp only [Act.put, List.setIfInBounds_toArray, List.set_cons_zero, List.set_cons_succ, i64_w, i32_w]
      rfl
    refine pure_ (i := 7) (N := some 64) (v := ?_) (a' := ?_) #[true, true, true, true, true, true, true, true, false, false, false, false, false, false, false, false, false, false, false, false, false, false, false, false, false, false] rfl rfl (any_of HT_.out (by kernel_rfl)) (fun _ _ _ h => h) (Or.inl ⟨by rfl, ?_⟩) ?_ ?_
    rotate_left
    · intro w'
      go_simp
      with_reducible rfl
    rotate_left
    · simp only [Act.put, List.setIfInBounds_toArray, List.set_cons_zero, List.set_cons_succ, i64_w, i32_w]
      rfl
    refine pure_ (i := 8) (N := some 65) (v := ?_) (a' := ?_) #[true, true, true, true, true, true, true, true, true, false, false, false, false, false, false, false, false, false, false, false, false, false, false, false, false, false] rfl rfl (any_of HT_.out (by kernel_rfl)) (fun _ _ _ h => h) (Or.inl ⟨by rfl, ?_⟩) ?_ ?_
    rotate_left
    · intro w'
      go_simp
      with_reducible rfl
    rotate_left
    · simp only [Act.put, List.setIfInBounds_toArray, List.set_cons_zero, List.set_cons_succ, i64_w, i32_w]
      rfl
    refine pure_ (i := 9) (N := some 66) (v := ?_) (a' := ?_) #[true, true, true, true, true, true, true, true, true, true, false, false, false, false, false, false, false, false, false, false, false, false, false, false, false, false] rfl rfl (any_of HT_.out (by kernel_rfl)) (fun _ _ _ h => h) (Or.inl ⟨by rfl, ?_⟩) ?_ ?_
    rotate_left
    · intro w'
      go_simp
      with_reducible rfl
    rotate_left
    · simp only [Act.put, List.setIfInBounds_toArray, List.set_cons_zero, List.set_cons_succ, i64_w, i32_w]
      rfl
    refine pure_ (i := 10) (N := some 67) (v := ?_) (a' := ?_) #[true, true, true, true, true, true, true, true, true, true, true, false, false, false, false, false, false, false, false, false, false, false, false, false, false, false] rfl rfl (any_of HT_.out (by kernel_rfl)) (fun _ _ _ h => h) (Or.inl ⟨by rfl, ?_⟩) ?_ ?_
    rotate_left
    · intro w'
      go_simp
      with_reducible rfl
    rotate_left
    · simp only [Act.put, List.setIfInBounds_toArray, List.set_cons_zero, List.set_cons_succ, i64_w, i32_w]
      rfl
    refine pure_ (i := 11) (N := some 68) (v := ?_) (a' := ?_) #[true, true, true, true, true, true, true, true, true, true, true, true, false, false, false, false, false, false, false, false, false, false, false, false, false, false] rfl rfl (any_of HT_.out (by kernel_rfl)) (fun _ _ _ h => h) (Or.inl ⟨by rfl, ?_⟩) ?_ ?_
    rotate_left
    · intro w'
      go_simp
      with_reducible rfl
    rotate_left
    · simp only [Act.put, List.setIfInBounds_toArray, List.set_cons_zero, List.set_cons_succ, i64_w, i32_w]
      rfl
    refine pure_ (i := 12) (N := some 69) (v := ?_) (a' := ?_) #[true, true, true, true, true, true, true, true, true, true, true, true, true, false, false, false, false, false, false, false, false, false, false, false, false, false] rfl rfl (any_of HT_.out (by kernel_rfl)) (fun _ _ _ h => h) (Or.inl ⟨by rfl, ?_⟩) ?_ ?_
    rotate_left
    · intro w'
      go_simp
      with_reducible rfl
    rotate_left
    · simp only [Act.put, List.setIfInBounds_toArray, List.set_cons_zero, List.set_cons_succ, i64_w, i32_w]
      rfl
    refine pure_ (i := 13) (N := some 70) (v := ?_) (a' := ?_) #[true, true, true, true, true, true, true, true, true, true, true, true, true, true, false, false, false, false, false, false, false, false, false, false, false, false] rfl rfl (any_of HT_.out (by kernel_rfl)) (fun _ _ _ h => h) (Or.inl ⟨by rfl, ?_⟩) ?_ ?_
    rotate_left
    · intro w'
      go_simp
      with_reducible rfl
    rotate_left
    · simp only [Act.put, List.setIfInBounds_toArray, List.set_cons_zero, List.set_cons_succ, i64_w, i32_w]
      rfl
    refine pure_ (i := 16) (N := some 73) (v := ?_) (a' := ?_) #[true, true, true, true, true, true, true, true, true, true, true, true, true, true, false, false, true, false, false, false, false, false, false, false, false, false] rfl rfl (any_of HT_.out (by kernel_rfl)) (fun _ _ _ h => h) (Or.inl ⟨by rfl, ?_⟩) ?_ ?_
    rotate_left
    · intro w'
      go_simp
      with_reducible rfl
    rotate_left
    · simp only [Act.put, List.setIfInBounds_toArray, List.set_cons_zero, List.set_cons_succ, i64_w, i32_w]
      rfl
    refine take_ (i := 17) (N := some 74) (v := ?_) (a' := ?_) #[true, true, true, true, true, true, true, true, true, true, true, true, true, true, false, false, true, true, false, false, false, false, false, false, false, false] rfl rfl (take_ofW HT_.out HW_.out (by kernel_rfl)) (fun _ _ _ h => h) (Or.inl ⟨by rfl, ?_⟩) hHeld ?_ ?_
    rotate_left
    · rintro w' ⟨s0, s1, s2, s3, s4, s5, s6, s7, s8, s9, s10, s11, s12⟩
      go_simp
      with_reducible rfl
    rotate_left
    · simp only [Act.put, List.setIfInBounds_toArray, List.set_cons_zero, List.set_cons_succ, i64_w, i32_w]
      rfl
    refine one_ (i := 14) (N := some 71) #[true, true, true, true, true, true, true, true, true, true, true, true, true, true, true, false, true, true, false, false, false, false, false, false, false, false] rfl rfl (one_of HT_.out (by kernel_rfl)) (by decide) (fun K hK => ?_)
    refine goes_ Try.func22 (by kernel_rfl) rfl #[a.p] (by rfl) rfl rfl (by (try simp only [List.map_toArray, List.map_cons, List.map_nil]); first | done | rfl) ?_
    refine (save_at (CA1.out.below HX.out) OK2.out).mono ?_
    rintro e' wz ⟨v0, rfl, hR, hb⟩
    rw [HSV.out] at hR
    obtain ⟨A7, c7, rfl, hH⟩ := held_of_R hR
    have HY := Aside0.mk (below_step HX.out hb)
    have ts := hH.text
    clear hb hR hH
    refine ⟨_, rfl, ?_⟩
    refine hK.out _ _ ⟨(blk_cell (blk_below B4.out HY.out) 0).trans rfl, (blk_cell (blk_below B4.out HY.out) 1).trans rfl, (blk_cell (blk_below B4.out HY.out) 2).trans rfl, (blk_cell (blk_below B4.out HY.out) 3).trans rfl, (blk_cell (blk_below B4.out HY.out) 4).trans rfl, (blk_cell (blk_below B4.out HY.out) 5).trans rfl, (blk_cell (blk_below B1.out HY.out) 0).trans rfl, (blk_cell (blk_below B1.out HY.out) 1).trans rfl, (blk_cell (blk_below B1.out HY.out) 2).trans rfl, (blk_cell (blk_below B1.out HY.out) 3).trans rfl, (blk_cell (blk_below B1.out HY.out) 4).trans rfl, (blk_cell (blk_below B1.out HY.out) 5).trans rfl, C_text (c := c2) (Kd.C_below HR2.out (below_step HB4.out HY.out))⟩ (fun hHeld => ?_)
    clear hK K
    refine norm_ (a' := ?_) ?_ ?_
    rotate_left
    · show Act.put _ (some 71) _ = _
      simp only [Act.put, List.setIfInBounds_toArray, List.set_cons_zero, List.set_cons_succ, i64_w, i32_w]
      rfl
    refine one_ (i := 15) (N := some 72) #[true, true, true, true, true, true, true, true, true, true, true, true, true, true, true, true, true, true, false, false, false, false, false, false, false, false] rfl rfl (one_of HT_.out (by kernel_rfl)) (by decide) (fun K hK => ?_)
    refine event_step (v := .string (strOfNums l2)) (by rfl) (by go_simp; rfl) ?_
    refine hK.out _ _ ⟨(blk_cell (blk_below B4.out HY.out) 0).trans rfl, (blk_cell (blk_below B4.out HY.out) 1).trans rfl, (blk_cell (blk_below B4.out HY.out) 2).trans rfl, (blk_cell (blk_below B4.out HY.out) 3).trans rfl, (blk_cell (blk_below B4.out HY.out) 4).trans rfl, (blk_cell (blk_below B4.out HY.out) 5).trans rfl, (blk_cell (blk_below B1.out HY.out) 0).trans rfl, (blk_cell (blk_below B1.out HY.out) 1).trans rfl, (blk_cell (blk_below B1.out HY.out) 2).trans rfl, (blk_cell (blk_below B1.out HY.out) 3).trans rfl, (blk_cell (blk_below B1.out HY.out) 4).trans rfl, (blk_cell (blk_below B1.out HY.out) 5).trans rfl, C_text (c := c2) (Kd.C_below HR2.out (below_step HB4.out HY.out))⟩ (fun hHeld => ?_)
    clear hK K
    refine norm_ (a' := ?_) ?_ ?_
    rotate_left
    · show Act.put _ (some 72) _ = _
      simp only [Act.put, List.setIfInBounds_toArray, List.set_cons_zero, List.set_cons_succ, i64_w, i32_w]
      rfl
    refine pure_ (i := 18) (N := some 75) (v := ?_) (a' := ?_) #[true, true, true, true, true, true, true, true, true, true, true, true, true, true, true, true, true, true, true, false, false, false, false, false, false, false] rfl rfl (any_of HT_.out (by kernel_rfl)) (fun _ _ _ h => h) (Or.inl ⟨by rfl, ?_⟩) ?_ ?_
    rotate_left
    · intro w'
      go_simp
      with_reducible rfl
    rotate_left
    · simp only [Act.put, List.setIfInBounds_toArray, List.set_cons_zero, List.set_cons_succ, i64_w, i32_w]
      rfl
    refine pure_ (i := 19) (N := some 76) (v := ?_) (a' := ?_) #[true, true, true, true, true, true, true, true, true, true, true, true, true, true, true, true, true, true, true, true, false, false, false, false, false, false] rfl rfl (any_of HT_.out (by kernel_rfl)) (fun _ _ _ h => h) (Or.inl ⟨by rfl, ?_⟩) ?_ ?_
    rotate_left
    · intro w'
      go_simp
      with_reducible rfl
    rotate_left
    · simp only [Act.put, List.setIfInBounds_toArray, List.set_cons_zero, List.set_cons_succ, i64_w, i32_w]
      rfl
    refine pure_ (i := 20) (N := some 77) (v := ?_) (a' := ?_) #[true, true, true, true, true, true, true, true, true, true, true, true, true, true, true, true, true, true, true, true, true, false, false, false, false, false] rfl rfl (any_of HT_.out (by kernel_rfl)) (fun _ _ _ h => h) (Or.inl ⟨by rfl, ?_⟩) ?_ ?_
    rotate_left
    · intro w'
      go_simp
      with_reducible rfl
    rotate_left
    · simp only [Act.put, List.setIfInBounds_toArray, List.set_cons_zero, List.set_cons_succ, i64_w, i32_w]
      rfl
    refine take_ (i := 21) (N := some 78) (v := ?_) (a' := ?_) #[true, true, true, true, true, true, true, true, true, true, true, true, true, true, true, true, true, true, true, true, true, true, false, false, false, false] rfl rfl (take_ofW HT_.out HW_.out (by kernel_rfl)) (fun _ _ _ h => h) (Or.inl ⟨by rfl, ?_⟩) hHeld ?_ ?_
    rotate_left
    · rintro w' ⟨s0, s1, s2, s3, s4, s5, s6, s7, s8, s9, s10, s11, s12⟩
      go_simp
      with_reducible rfl
    rotate_left
    · simp only [Act.put, List.setIfInBounds_toArray, List.set_cons_zero, List.set_cons_succ, i64_w, i32_w]
      rfl
    refine take_ (i := 22) (N := some 79) (v := ?_) (a' := ?_) #[true, true, true, true, true, true, true, true, true, true, true, true, true, true, true, true, true, true, true, true, true, true, true, false, false, false] rfl rfl (take_ofW HT_.out HW_.out (by kernel_rfl)) (fun _ _ _ h => h) (Or.inl ⟨by rfl, ?_⟩) hHeld ?_ ?_
    rotate_left
    · rintro w' ⟨s0, s1, s2, s3, s4, s5, s6, s7, s8, s9, s10, s11, s12⟩
      go_simp
      with_reducible rfl
    rotate_left
    · simp only [Act.put, List.setIfInBounds_toArray, List.set_cons_zero, List.set_cons_succ, i64_w, i32_w]
      rfl
    refine pure_ (i := 23) (N := some 80) (v := ?_) (a' := ?_) #[true, true, true, true, true, true, true, true, true, true, true, true, true, true, true, true, true, true, true, true, true, true, true, true, false, false] rfl rfl (any_of HT_.out (by kernel_rfl)) (fun _ _ _ h => h) (Or.inl ⟨by rfl, ?_⟩) ?_ ?_
    rotate_left
    · intro w'
      go_simp
      with_reducible rfl
    rotate_left
    · simp only [Act.put, List.setIfInBounds_toArray, List.set_cons_zero, List.set_cons_succ, i64_w, i32_w]
      rfl
    refine pure_ (i := 24) (N := some 81) (v := ?_) (a' := ?_) #[true, true, true, true, true, true, true, true, true, true, true, true, true, true, true, true, true, true, true, true, true, true, true, true, true, false] rfl rfl (any_of HT_.out (by kernel_rfl)) (fun _ _ _ h => h) (Or.inl ⟨by rfl, ?_⟩) ?_ ?_
    rotate_left
    · intro w'
      go_simp
      with_reducible rfl
    rotate_left
    · simp only [Act.put, List.setIfInBounds_toArray, List.set_cons_zero, List.set_cons_succ, i64_w, i32_w]
      rfl
    refine pure_ (i := 25) (N := some 6) (v := ?_) (a' := ?_) #[true, true, true, true, true, true, true, true, true, true, true, true, true, true, true, true, true, true, true, true, true, true, true, true, true, true] rfl rfl (any_of HT_.out (by kernel_rfl)) (fun _ _ _ h => h) (Or.inl ⟨by rfl, ?_⟩) ?_ ?_
    rotate_left
    · intro w'
      go_simp
      with_reducible rfl
    rotate_left
    · simp only [Act.put, List.setIfInBounds_toArray, List.set_cons_zero, List.set_cons_succ, i64_w, i32_w]
      rfl
    refine done_ (done_of HT_.out (by kernel_rfl)) ?_
    go_wp2
    go_returns
    exact ⟨rfl, below_step HB4.out HY.out⟩
  case neg =>
    obtain ⟨h7, h5, hss⟩ := Pure.load_refuses s1 HB2.out hz
    have hs21 : s2 = s1 := HS2.out.trans hss
    subst hs21
    clear hss
    have hz0 : (s2.loadE l2 == 0) = false := beq_eq_false_iff_ne.mpr hz
    generalize s2.loadE l2 = e at h7 h5 hz hz0 ⊢
    clear hz
    go_wp2_with fail
    refine (state_as CA1.out s2.mp s2.lv s2.hd rfl rfl rfl).mono ?_
    rintro e' w9 ⟨rfl, hb⟩
    have CA1_ := Aside0.mk (CA1.out.below hb)
    have HB4_ := Aside0.mk (below_step HB4.out hb)
    have LB_ := Aside0.mk (Nat.lt_of_lt_of_le LB.out hb.size)
    have LR_ := Aside0.mk (Nat.lt_of_lt_of_le LR.out hb.size)
    have HH_ := Aside0.mk (HH.out.below hb)
    have B1_ := Aside0.mk (blk_below B1.out hb)
    have B2_ := Aside0.mk (blk_below B2.out hb)
    have B3_ := Aside0.mk (blk_below B3.out hb)
    clear CA1 HB4 LB LR HH B1 B2 B3
    have CA1 := CA1_
    have HB4 := HB4_
    have LB := LB_
    have LR := LR_
    have HH := HH_
    have B1 := B1_
    have B2 := B2_
    have B3 := B3_
    clear CA1_ HB4_ LB_ LR_ HH_ B1_ B2_ B3_
    clear hb
    have P2 := Aside0.mk (show a.b < w9.heap.size ∧ a.gr < w9.heap.size from ⟨LB.out, LR.out⟩)
    go_wp2_with fail
    have b0 := blk_alloc (blk_alloc (blk_new w9 (.cells #[.int .i64 s2.mp.k, .bool s2.mp.o, .int .u8 s2.mp.l, .int .u8 s2.mp.h, .int .u8 s2.mp.r, .bool s2.mp.md] 32)) (.cells #[.int .u8 s2.lv.s, .int .u8 s2.lv.m, .int .u8 s2.lv.h, .int .u16 s2.lv.d, .bool s2.lv.ht, .bool s2.lv.cy] 34)) (.cells #[.int .u8 s2.hd.s, .int .u8 s2.hd.m, .int .u8 s2.hd.h, .int .u16 s2.hd.d, .bool s2.hd.ht, .bool s2.hd.cy] 34)
    have b1 := blk_alloc (blk_at2 w9 (.cells #[.int .i64 s2.mp.k, .bool s2.mp.o, .int .u8 s2.mp.l, .int .u8 s2.mp.h, .int .u8 s2.mp.r, .bool s2.mp.md] 32) (.cells #[.int .u8 s2.lv.s, .int .u8 s2.lv.m, .int .u8 s2.lv.h, .int .u16 s2.lv.d, .bool s2.lv.ht, .bool s2.lv.cy] 34)) (.cells #[.int .u8 s2.hd.s, .int .u8 s2.hd.m, .int .u8 s2.hd.h, .int .u16 s2.hd.d, .bool s2.hd.ht, .bool s2.hd.cy] 34)
    have b2 := blk_at3 w9 (.cells #[.int .i64 s2.mp.k, .bool s2.mp.o, .int .u8 s2.mp.l, .int .u8 s2.mp.h, .int .u8 s2.mp.r, .bool s2.mp.md] 32) (.cells #[.int .u8 s2.lv.s, .int .u8 s2.lv.m, .int .u8 s2.lv.h, .int .u16 s2.lv.d, .bool s2.lv.ht, .bool s2.lv.cy] 34) (.cells #[.int .u8 s2.hd.s, .int .u8 s2.hd.m, .int .u8 s2.hd.h, .int .u16 s2.hd.d, .bool s2.hd.ht, .bool s2.hd.cy] 34)
    have hb := below_alloc (below_alloc (below_alloc (Below.refl w9.heap.size w9) (.cells #[.int .i64 s2.mp.k, .bool s2.mp.o, .int .u8 s2.mp.l, .int .u8 s2.mp.h, .int .u8 s2.mp.r, .bool s2.mp.md] 32)) (.cells #[.int .u8 s2.lv.s, .int .u8 s2.lv.m, .int .u8 s2.lv.h, .int .u16 s2.lv.d, .bool s2.lv.ht, .bool s2.lv.cy] 34)) (.cells #[.int .u8 s2.hd.s, .int .u8 s2.hd.m, .int .u8 s2.hd.h, .int .u16 s2.hd.d, .bool s2.hd.ht, .bool s2.hd.cy] 34)
    generalize ((w9.alloc (.cells #[.int .i64 s2.mp.k, .bool s2.mp.o, .int .u8 s2.mp.l, .int .u8 s2.mp.h, .int .u8 s2.mp.r, .bool s2.mp.md] 32)).alloc (.cells #[.int .u8 s2.lv.s, .int .u8 s2.lv.m, .int .u8 s2.lv.h, .int .u16 s2.lv.d, .bool s2.lv.ht, .bool s2.lv.cy] 34)).alloc (.cells #[.int .u8 s2.hd.s, .int .u8 s2.hd.m, .int .u8 s2.hd.h, .int .u16 s2.hd.d, .bool s2.hd.ht, .bool s2.hd.cy] 34) = w10 at b0 b1 b2 hb ⊢
    have CA1_ := Aside0.mk (CA1.out.below hb)
    have HB4_ := Aside0.mk (below_step HB4.out hb)
    have LB_ := Aside0.mk (Nat.lt_of_lt_of_le LB.out hb.size)
    have LR_ := Aside0.mk (Nat.lt_of_lt_of_le LR.out hb.size)
    have HH_ := Aside0.mk (HH.out.below hb)
    have B1_ := Aside0.mk (blk_below B1.out hb)
    have B2_ := Aside0.mk (blk_below B2.out hb)
    have B3_ := Aside0.mk (blk_below B3.out hb)
    clear CA1 HB4 LB LR HH B1 B2 B3
    have CA1 := CA1_
    have HB4 := HB4_
    have LB := LB_
    have LR := LR_
    have HH := HH_
    have B1 := B1_
    have B2 := B2_
    have B3 := B3_
    clear CA1_ HB4_ LB_ LR_ HH_ B1_ B2_ B3_
    clear hb
    have B4 := Aside0.mk (b0)
    have B5 := Aside0.mk (b1)
    have B6 := Aside0.mk (b2)
    clear b0 b1 b2
    by_cases e7 : e = 7
    case pos =>
      have HD := Aside0.mk (below_drew1 (Below.refl w10.heap.size w10))
      subst e7
      have hbt : s2.hdr.bt = false := by simpa using h7
      have HBT := Aside0.mk hbt
      clear hbt h7 h5
      have hfl := field_bt
      go_wp2_with fail
      refine start_ (n := 47) (S := fun w' => w'.cell? ⟨w9.heap.size, 0, none⟩ = some (.int .i64 s2.mp.k) ∧ w'.cell? ⟨w9.heap.size, 1, none⟩ = some (.bool s2.mp.o) ∧ w'.cell? ⟨w9.heap.size, 2, none⟩ = some (.int .u8 s2.mp.l) ∧ w'.cell? ⟨w9.heap.size, 3, none⟩ = some (.int .u8 s2.mp.h) ∧ w'.cell? ⟨w9.heap.size, 4, none⟩ = some (.int .u8 s2.mp.r) ∧ w'.cell? ⟨w9.heap.size, 5, none⟩ = some (.bool s2.mp.md) ∧ w'.cell? ⟨w5.heap.size, 0, none⟩ = some (.int .i64 s2.mp.k) ∧ w'.cell? ⟨w5.heap.size, 1, none⟩ = some (.bool s2.mp.o) ∧ w'.cell? ⟨w5.heap.size, 2, none⟩ = some (.int .u8 s2.mp.l) ∧ w'.cell? ⟨w5.heap.size, 3, none⟩ = some (.int .u8 s2.mp.h) ∧ w'.cell? ⟨w5.heap.size, 4, none⟩ = some (.int .u8 s2.mp.r) ∧ w'.cell? ⟨w5.heap.size, 5, none⟩ = some (.bool s2.mp.md) ∧ w'.cell? ⟨w9.heap.size + 1, 0, none⟩ = some (.int .u8 s2.lv.s) ∧ w'.cell? ⟨w9.heap.size + 1, 1, none⟩ = some (.int .u8 s2.lv.m) ∧ w'.cell? ⟨w9.heap.size + 1, 2, none⟩ = some (.int .u8 s2.lv.h) ∧ w'.cell? ⟨w9.heap.size + 1, 3, none⟩ = some (.int .u16 s2.lv.d) ∧ w'.cell? ⟨w9.heap.size + 1, 4, none⟩ = some (.bool s2.lv.ht) ∧ w'.cell? ⟨w9.heap.size + 1, 5, none⟩ = some (.bool s2.lv.cy) ∧ w'.cell? ⟨w5.heap.size + 1, 0, none⟩ = some (.int .u8 s2.lv.s) ∧ w'.cell? ⟨w5.heap.size + 1, 1, none⟩ = some (.int .u8 s2.lv.m) ∧ w'.cell? ⟨w5.heap.size + 1, 2, none⟩ = some (.int .u8 s2.lv.h) ∧ w'.cell? ⟨w5.heap.size + 1, 3, none⟩ = some (.int .u16 s2.lv.d) ∧ w'.cell? ⟨w5.heap.size + 1, 4, none⟩ = some (.bool s2.lv.ht) ∧ w'.cell? ⟨w5.heap.size + 1, 5, none⟩ = some (.bool s2.lv.cy) ∧ w'.cell? ⟨w9.heap.size + 2, 0, none⟩ = some (.int .u8 s2.hd.s) ∧ w'.cell? ⟨w9.heap.size + 2, 1, none⟩ = some (.int .u8 s2.hd.m) ∧ w'.cell? ⟨w9.heap.size + 2, 2, none⟩ = some (.int .u8 s2.hd.h) ∧ w'.cell? ⟨w9.heap.size + 2, 3, none⟩ = some (.int .u16 s2.hd.d) ∧ w'.cell? ⟨w9.heap.size + 2, 4, none⟩ = some (.bool s2.hd.ht) ∧ w'.cell? ⟨w9.heap.size + 2, 5, none⟩ = some (.bool s2.hd.cy) ∧ w'.cell? ⟨w5.heap.size + 2, 0, none⟩ = some (.int .u8 s2.hd.s) ∧ w'.cell? ⟨w5.heap.size + 2, 1, none⟩ = some (.int .u8 s2.hd.m) ∧ w'.cell? ⟨w5.heap.size + 2, 2, none⟩ = some (.int .u8 s2.hd.h) ∧ w'.cell? ⟨w5.heap.size + 2, 3, none⟩ = some (.int .u16 s2.hd.d) ∧ w'.cell? ⟨w5.heap.size + 2, 4, none⟩ = some (.bool s2.hd.ht) ∧ w'.cell? ⟨w5.heap.size + 2, 5, none⟩ = some (.bool s2.hd.cy) ∧ (convert 22 9 (.slice A5 s2.ram.length c5)).run Try.prog w' = .ok (.string (strOfNums s2.ram)) w') (ds := []) #[false, false, false, false, false, false, false, false, false, false, false, false, false, false, false, false, false, false, false, false, false, false, false, false, false, false, false, false, false, false, false, false, false, false, false, false, false, false, false, false, false, false, false, false, false, false, false] (by kernel_rfl) rfl rfl ⟨(blk_cell (blk_below B4.out HD.out) 0).trans rfl, (blk_cell (blk_below B4.out HD.out) 1).trans rfl, (blk_cell (blk_below B4.out HD.out) 2).trans rfl, (blk_cell (blk_below B4.out HD.out) 3).trans rfl, (blk_cell (blk_below B4.out HD.out) 4).trans rfl, (blk_cell (blk_below B4.out HD.out) 5).trans rfl, (blk_cell (blk_below B1.out HD.out) 0).trans rfl, (blk_cell (blk_below B1.out HD.out) 1).trans rfl, (blk_cell (blk_below B1.out HD.out) 2).trans rfl, (blk_cell (blk_below B1.out HD.out) 3).trans rfl, (blk_cell (blk_below B1.out HD.out) 4).trans rfl, (blk_cell (blk_below B1.out HD.out) 5).trans rfl, (blk_cell (blk_below B5.out HD.out) 0).trans rfl, (blk_cell (blk_below B5.out HD.out) 1).trans rfl, (blk_cell (blk_below B5.out HD.out) 2).trans rfl, (blk_cell (blk_below B5.out HD.out) 3).trans rfl, (blk_cell (blk_below B5.out HD.out) 4).trans rfl, (blk_cell (blk_below B5.out HD.out) 5).trans rfl, (blk_cell (blk_below B2.out HD.out) 0).trans rfl, (blk_cell (blk_below B2.out HD.out) 1).trans rfl, (blk_cell (blk_below B2.out HD.out) 2).trans rfl, (blk_cell (blk_below B2.out HD.out) 3).trans rfl, (blk_cell (blk_below B2.out HD.out) 4).trans rfl, (blk_cell (blk_below B2.out HD.out) 5).trans rfl, (blk_cell (blk_below B6.out HD.out) 0).trans rfl, (blk_cell (blk_below B6.out HD.out) 1).trans rfl, (blk_cell (blk_below B6.out HD.out) 2).trans rfl, (blk_cell (blk_below B6.out HD.out) 3).trans rfl, (blk_cell (blk_below B6.out HD.out) 4).trans rfl, (blk_cell (blk_below B6.out HD.out) 5).trans rfl, (blk_cell (blk_below B3.out HD.out) 0).trans rfl, (blk_cell (blk_below B3.out HD.out) 1).trans rfl, (blk_cell (blk_below B3.out HD.out) 2).trans rfl, (blk_cell (blk_below B3.out HD.out) 3).trans rfl, (blk_cell (blk_below B3.out HD.out) 4).trans rfl, (blk_cell (blk_below B3.out HD.out) 5).trans rfl, (HH.out.below HD.out).text⟩ (fun hHeld => ?_)
      refine with_tabW loads13.tab loads13.bits (fun HT_ HW_ => ?_)
      refine pure_ (i := 0) (N := some 82) (v := ?_) (a' := ?_) #[true, false, false, false, false, false, false, false, false, false, false, false, false, false, false, false, false, false, false, false, false, false, false, false, false, false, false, false, false, false, false, false, false, false, false, false, false, false, false, false, false, false, false, false, false, false, false] rfl rfl (any_of HT_.out (by kernel_rfl)) (fun _ _ _ h => h) (Or.inl ⟨by rfl, ?_⟩) ?_ ?_
      rotate_left
      · intro w'
        go_simp
        with_reducible rfl
      rotate_left
      · simp only [Act.put, List.setIfInBounds_toArray, List.set_cons_zero, List.set_cons_succ, i64_w, i32_w]
        rfl
      refine pure_ (i := 1) (N := some 83) (v := ?_) (a' := ?_) #[true, true, false, false, false, false, false, false, false, false, false, false, false, false, false, false, false, false, false, false, false, false, false, false, false, false, false, false, false, false, false, false, false, false, false, false, false, false, false, false, false, false, false, false, false, false, false] rfl rfl (any_of HT_.out (by kernel_rfl)) (fun _ _ _ h => h) (Or.inl ⟨by rfl, ?_⟩) ?_ ?_
      rotate_left
      · intro w'
        go_simp
        with_reducible rfl
      rotate_left
      · simp only [Act.put, List.setIfInBounds_toArray, List.set_cons_zero, List.set_cons_succ, i64_w, i32_w]
        rfl
      refine pure_ (i := 2) (N := some 84) (v := ?_) (a' := ?_) #[true, true, true, false, false, false, false, false, false, false, false, false, false, false, false, false, false, false, false, false, false, false, false, false, false, false, false, false, false, false, false, false, false, false, false, false, false, false, false, false, false, false, false, false, false, false, false] rfl rfl (any_of HT_.out (by kernel_rfl)) (fun _ _ _ h => h) (Or.inl ⟨by rfl, ?_⟩) ?_ ?_
      rotate_left
      · intro w'
        go_simp
        with_reducible rfl
      rotate_left
      · simp only [Act.put, List.setIfInBounds_toArray, List.set_cons_zero, List.set_cons_succ, i64_w, i32_w]
        rfl
      refine pure_ (i := 3) (N := some 85) (v := ?_) (a' := ?_) #[true, true, true, true, false, false, false, false, false, false, false, false, false, false, false, false, false, false, false, false, false, false, false, false, false, false, false, false, false, false, false, false, false, false, false, false, false, false, false, false, false, false, false, false, false, false, false] rfl rfl (any_of HT_.out (by kernel_rfl)) (fun _ _ _ h => h) (Or.inl ⟨by rfl, ?_⟩) ?_ ?_
      rotate_left
      · intro w'
        go_simp
        with_reducible rfl
      rotate_left
      · simp only [Act.put, List.setIfInBounds_toArray, List.set_cons_zero, List.set_cons_succ, i64_w, i32_w]
        rfl
      refine pure_ (i := 4) (N := some 86) (v := ?_) (a' := ?_) #[true, true, true, true, true, false, false, false, false, false, false, false, false, false, false, false, false, false, false, false, false, false, false, false, false, false, false, false, false, false, false, false, false, false, false, false, false, false, false, false, false, false, false, false, false, false, false] rfl rfl (any_of HT_.out (by kernel_rfl)) (fun _ _ _ h => h) (Or.inl ⟨by rfl, ?_⟩) ?_ ?_
      rotate_left
      · intro w'
        go_simp
        with_reducible rfl
      rotate_left
      · simp only [Act.put, List.setIfInBounds_toArray, List.set_cons_zero, List.set_cons_succ, i64_w, i32_w]
        rfl
      refine one_ (i := 5) (N := some 87) #[true, true, true, true, true, true, false, false, false, false, false, false, false, false, false, false, false, false, false, false, false, false, false, false, false, false, false, false, false, false, false, false, false, false, false, false, false, false, false, false, false, false, false, false, false, false, false] rfl rfl (one_of HT_.out (by kernel_rfl)) (by decide) (fun K hK => ?_)
      refine goes_ Try.func12 (by kernel_rfl) rfl #[a.p] (by rfl) rfl rfl (by (try simp only [List.map_toArray, List.map_cons, List.map_nil]); first | done | rfl) ?_
      refine (head_bt (CA1.out.below HD.out) false HBT.out).mono ?_
      rintro e' wy ⟨rfl, hb⟩
      have HX := Aside0.mk (below_step HD.out hb)
      clear hb
      refine ⟨_, rfl, ?_⟩
      refine hK.out _ _ ⟨(blk_cell (blk_below B4.out HX.out) 0).trans rfl, (blk_cell (blk_below B4.out HX.out) 1).trans rfl, (blk_cell (blk_below B4.out HX.out) 2).trans rfl, (blk_cell (blk_below B4.out HX.out) 3).trans rfl, (blk_cell (blk_below B4.out HX.out) 4).trans rfl, (blk_cell (blk_below B4.out HX.out) 5).trans rfl, (blk_cell (blk_below B1.out HX.out) 0).trans rfl, (blk_cell (blk_below B1.out HX.out) 1).trans rfl, (blk_cell (blk_below B1.out HX.out) 2).trans rfl, (blk_cell (blk_below B1.out HX.out) 3).trans rfl, (blk_cell (blk_below B1.out HX.out) 4).trans rfl, (blk_cell (blk_below B1.out HX.out) 5).trans rfl, (blk_cell (blk_below B5.out HX.out) 0).trans rfl, (blk_cell (blk_below B5.out HX.out) 1).trans rfl, (blk_cell (blk_below B5.out HX.out) 2).trans rfl, (blk_cell (blk_below B5.out HX.out) 3).trans rfl, (blk_cell (blk_below B5.out HX.out) 4).trans rfl, (blk_cell (blk_below B5.out HX.out) 5).trans rfl, (blk_cell (blk_below B2.out HX.out) 0).trans rfl, (blk_cell (blk_below B2.out HX.out) 1).trans rfl, (blk_cell (blk_below B2.out HX.out) 2).trans rfl, (blk_cell (blk_below B2.out HX.out) 3).trans rfl, (blk_cell (blk_below B2.out HX.out) 4).trans rfl, (blk_cell (blk_below B2.out HX.out) 5).trans rfl, (blk_cell (blk_below B6.out HX.out) 0).trans rfl, (blk_cell (blk_below B6.out HX.out) 1).trans rfl, (blk_cell (blk_below B6.out HX.out) 2).trans rfl, (blk_cell (blk_below B6.out HX.out) 3).trans rfl, (blk_cell (blk_below B6.out HX.out) 4).trans rfl, (blk_cell (blk_below B6.out HX.out) 5).trans rfl, (blk_cell (blk_below B3.out HX.out) 0).trans rfl, (blk_cell (blk_below B3.out HX.out) 1).trans rfl, (blk_cell (blk_below B3.out HX.out) 2).trans rfl, (blk_cell (blk_below B3.out HX.out) 3).trans rfl, (blk_cell (blk_below B3.out HX.out) 4).trans rfl, (blk_cell (blk_below B3.out HX.out) 5).trans rfl, (HH.out.below HX.out).text⟩ (fun hHeld => ?_)
      clear hK K
      refine norm_ (a' := ?_) ?_ ?_
      rotate_left
      · show Act.put _ (some 87) _ = _
        simp only [Act.put, List.setIfInBounds_toArray, List.set_cons_zero, List.set_cons_succ, i64_w, i32_w]
        rfl
      refine pure_ (i := 6) (N := some 88) (v := ?_) (a' := ?_) #[true, true, true, true, true, true, true, false, false, false, false, false, false, false, false, false, false, false, false, false, false, false, false, false, false, false, false, false, false, false, false, false, false, false, false, false, false, false, false, false, false, false, false, false, false, false, false] rfl rfl (any_of HT_.out (by kernel_rfl)) (fun _ _ _ h => h) (Or.inl ⟨by rfl, ?_⟩) ?_ ?_
      rotate_left
      · intro w'
        go_simp
        with_reducible rfl
      rotate_left
      · simp only [Act.put, List.setIfInBounds_toArray, List.set_cons_zero, List.set_cons_succ, i64_w, i32_w]
        rfl
      refine pure_ (i := 7) (N := some 89) (v := ?_) (a' := ?_) #[true, true, true, true, true, true, true, true, false, false, false, false, false, false, false, false, false, false, false, false, false, false, false, false, false, false, false, false, false, false, false, false, false, false, false, false, false, false, false, false, false, false, false, false, false, false, false] rfl rfl (any_of HT_.out (by kernel_rfl)) (fun _ _ _ h => h) (Or.inl ⟨by rfl, ?_⟩) ?_ ?_
      rotate_left
      · intro w'
        go_simp
        with_reducible rfl
      rotate_left
      · simp only [Act.put, List.setIfInBounds_toArray, List.set_cons_zero, List.set_cons_succ, i64_w, i32_w]
        rfl
      refine pure_ (i := 8) (N := some 90) (v := ?_) (a' := ?_) #[true, true, true, true, true, true, true, true, true, false, false, false, false, false, false, false, false, false, false, false, false, false, false, false, false, false, false, false, false, false, false, false, false, false, false, false, false, false, false, false, false, false, false, false, false, false, false] rfl rfl (any_of HT_.out (by kernel_rfl)) (fun _ _ _ h => h) (Or.inl ⟨by rfl, ?_⟩) ?_ ?_
      rotate_left
      · intro w'
        go_simp
        with_reducible rfl
      rotate_left
      · simp only [Act.put, List.setIfInBounds_toArray, List.set_cons_zero, List.set_cons_succ, i64_w, i32_w]
        rfl
      refine pure_ (i := 9) (N := some 91) (v := ?_) (a' := ?_) #[true, true, true, true, true, true, true, true, true, true, false, false, false, false, false, false, false, false, false, false, false, false, false, false, false, false, false, false, false, false, false, false, false, false, false, false, false, false, false, false, false, false, false, false, false, false, false] rfl rfl (any_of HT_.out (by kernel_rfl)) (fun _ _ _ h => h) (Or.inl ⟨by rfl, ?_⟩) ?_ ?_
      rotate_left
      · intro w'
        go_simp
        with_reducible rfl
      rotate_left
      · simp only [Act.put, List.setIfInBounds_toArray, List.set_cons_zero, List.set_cons_succ, i64_w, i32_w]
        rfl
      refine pure_ (i := 10) (N := some 92) (v := ?_) (a' := ?_) #[true, true, true, true, true, true, true, true, true, true, true, false, false, false, false, false, false, false, false, false, false, false, false, false, false, false, false, false, false, false, false, false, false, false, false, false, false, false, false, false, false, false, false, false, false, false, false] rfl rfl (any_of HT_.out (by kernel_rfl)) (fun _ _ _ h => h) (Or.inl ⟨by rfl, ?_⟩) ?_ ?_
      rotate_left
      · intro w'
        go_simp
        with_reducible rfl
      rotate_left
      · simp only [Act.put, List.setIfInBounds_toArray, List.set_cons_zero, List.set_cons_succ, i64_w, i32_w]
        rfl
      refine pure_ (i := 11) (N := some 93) (v := ?_) (a' := ?_) #[true, true, true, true, true, true, true, true, true, true, true, true, false, false, false, false, false, false, false, false, false, false, false, false, false, false, false, false, false, false, false, false, false, false, false, false, false, false, false, false, false, false, false, false, false, false, false] rfl rfl (any_of HT_.out (by kernel_rfl)) (fun _ _ _ h => h) (Or.inl ⟨by rfl, ?_⟩) ?_ ?_
      rotate_left
      · intro w'
        go_simp
        with_reducible rfl
      rotate_left
      · simp only [Act.put, List.setIfInBounds_toArray, List.set_cons_zero, List.set_cons_succ, i64_w, i32_w]
        rfl
      refine pure_ (i := 12) (N := some 94) (v := ?_) (a' := ?_) #[true, true, true, true, true, true, true, true, true, true, true, true, true, false, false, false, false, false, false, false, false, false, false, false, false, false, false, false, false, false, false, false, false, false, false, false, false, false, false, false, false, false, false, false, false, false, false] rfl rfl (any_of HT_.out (by kernel_rfl)) (fun _ _ _ h => h) (Or.inl ⟨by rfl, ?_⟩) ?_ ?_
      rotate_left
      · intro w'
        go_simp
        with_reducible rfl
      rotate_left
      · simp only [Act.put, List.setIfInBounds_toArray, List.set_cons_zero, List.set_cons_succ, i64_w, i32_w]
        rfl
      refine pure_ (i := 13) (N := some 95) (v := ?_) (a' := ?_) #[true, true, true, true, true, true, true, true, true, true, true, true, true, true, false, false, false, false, false, false, false, false, false, false, false, false, false, false, false, false, false, false, false, false, false, false, false, false, false, false, false, false, false, false, false, false, false] rfl rfl (any_of HT_.out (by kernel_rfl)) (fun _ _ _ h => h) (Or.inl ⟨by rfl, ?_⟩) ?_ ?_
      rotate_left
      · intro w'
        go_simp
        with_reducible rfl
      rotate_left
      · simp only [Act.put, List.setIfInBounds_toArray, List.set_cons_zero, List.set_cons_succ, i64_w, i32_w]
        rfl
      refine pure_ (i := 14) (N := some 96) (v := undef) (a' := ?_) #[true, true, true, true, true, true, true, true, true, true, true, true, true, true, true, false, false, false, false, false, false, false, false, false, false, false, false, false, false, false, false, false, false, false, false, false, false, false, false, false, false, false, false, false, false, false, false] rfl rfl (any_of HT_.out (by kernel_rfl)) (fun _ _ _ h => h) (Or.inr ⟨by rfl, rfl⟩) ?_ ?_
      rotate_left
      · simp only [Act.put, List.setIfInBounds_toArray, List.set_cons_zero, List.set_cons_succ, i64_w, i32_w]
        rfl
      refine pure_ (i := 15) (N := some 97) (v := undef) (a' := ?_) #[true, true, true, true, true, true, true, true, true, true, true, true, true, true, true, true, false, false, false, false, false, false, false, false, false, false, false, false, false, false, false, false, false, false, false, false, false, false, false, false, false, false, false, false, false, false, false] rfl rfl (any_of HT_.out (by kernel_rfl)) (fun _ _ _ h => h) (Or.inr ⟨by rfl, rfl⟩) ?_ ?_
      rotate_left
      · simp only [Act.put, List.setIfInBounds_toArray, List.set_cons_zero, List.set_cons_succ, i64_w, i32_w]
        rfl
      refine pure_ (i := 16) (N := some 98) (v := undef) (a' := ?_) #[true, true, true, true, true, true, true, true, true, true, true, true, true, true, true, true, true, false, false, false, false, false, false, false, false, false, false, false, false, false, false, false, false, false, false, false, false, false, false, false, false, false, false, false, false, false, false] rfl rfl (any_of HT_.out (by kernel_rfl)) (fun _ _ _ h => h) (Or.inr ⟨by rfl, rfl⟩) ?_ ?_
      rotate_left
      · simp only [Act.put, List.setIfInBounds_toArray, List.set_cons_zero, List.set_cons_succ, i64_w, i32_w]
        rfl
      refine pure_ (i := 17) (N := some 99) (v := undef) (a' := ?_) #[true, true, true, true, true, true, true, true, true, true, true, true, true, true, true, true, true, true, false, false, false, false, false, false, false, false, false, false, false, false, false, false, false, false, false, false, false, false, false, false, false, false, false, false, false, false, false] rfl rfl (any_of HT_.out (by kernel_rfl)) (fun _ _ _ h => h) (Or.inr ⟨by rfl, rfl⟩) ?_ ?_
      rotate_left
      · simp only [Act.put, List.setIfInBounds_toArray, List.set_cons_zero, List.set_cons_succ, i64_w, i32_w]
        rfl
      refine pure_ (i := 18) (N := some 100) (v := undef) (a' := ?_) #[true, true, true, true, true, true, true, true, true, true, true, true, true, true, true, true, true, true, true, false, false, false, false, false, false, false, false, false, false, false, false, false, false, false, false, false, false, false, false, false, false, false, false, false, false, false, false] rfl rfl (any_of HT_.out (by kernel_rfl)) (fun _ _ _ h => h) (Or.inr ⟨by rfl, rfl⟩) ?_ ?_
      rotate_left
      · simp only [Act.put, List.setIfInBounds_toArray, List.set_cons_zero, List.set_cons_succ, i64_w, i32_w]
        rfl
      refine pure_ (i := 19) (N := some 101) (v := undef) (a' := ?_) #[true, true, true, true, true, true, true, true, true, true, true, true, true, true, true, true, true, true, true, true, false, false, false, false, false, false, false, false, false, false, false, false, false, false, false, false, false, false, false, false, false, false, false, false, false, false, false] rfl rfl (any_of HT_.out (by kernel_rfl)) (fun _ _ _ h => h) (Or.inr ⟨by rfl, rfl⟩) ?_ ?_
      rotate_left
      · simp only [Act.put, List.setIfInBounds_toArray, List.set_cons_zero, List.set_cons_succ, i64_w, i32_w]
        rfl
      refine pure_ (i := 20) (N := some 102) (v := undef) (a' := ?_) #[true, true, true, true, true, true, true, true, true, true, true, true, true, true, true, true, true, true, true, true, true, false, false, false, false, false, false, false, false, false, false, false, false, false, false, false, false, false, false, false, false, false, false, false, false, false, false] rfl rfl (any_of HT_.out (by kernel_rfl)) (fun _ _ _ h => h) (Or.inr ⟨by rfl, rfl⟩) ?_ ?_
      rotate_left
      · simp only [Act.put, List.setIfInBounds_toArray, List.set_cons_zero, List.set_cons_succ, i64_w, i32_w]
        rfl
      refine pure_ (i := 21) (N := some 103) (v := ?_) (a' := ?_) #[true, true, true, true, true, true, true, true, true, true, true, true, true, true, true, true, true, true, true, true, true, true, false, false, false, false, false, false, false, false, false, false, false, false, false, false, false, false, false, false, false, false, false, false, false, false, false] rfl rfl (any_of HT_.out (by kernel_rfl)) (fun _ _ _ h => h) (Or.inl ⟨by rfl, ?_⟩) ?_ ?_
      rotate_left
      · intro w'
        go_simp
        with_reducible rfl
      rotate_left
      · simp only [Act.put, List.setIfInBounds_toArray, List.set_cons_zero, List.set_cons_succ, i64_w, i32_w]
        rfl
      refine pure_ (i := 22) (N := some 104) (v := ?_) (a' := ?_) #[true, true, true, true, true, true, true, true, true, true, true, true, true, true, true, true, true, true, true, true, true, true, true, false, false, false, false, false, false, false, false, false, false, false, false, false, false, false, false, false, false, false, false, false, false, false, false] rfl rfl (any_of HT_.out (by kernel_rfl)) (fun _ _ _ h => h) (Or.inl ⟨by rfl, ?_⟩) ?_ ?_
      rotate_left
      · intro w'
        go_simp
        with_reducible rfl
      rotate_left
      · simp only [Act.put, List.setIfInBounds_toArray, List.set_cons_zero, List.set_cons_succ, i64_w, i32_w]
        rfl
      refine pure_ (i := 23) (N := some 105) (v := ?_) (a' := ?_) #[true, true, true, true, true, true, true, true, true, true, true, true, true, true, true, true, true, true, true, true, true, true, true, true, false, false, false, false, false, false, false, false, false, false, false, false, false, false, false, false, false, false, false, false, false, false, false] rfl rfl (any_of HT_.out (by kernel_rfl)) (fun _ _ _ h => h) (Or.inl ⟨by rfl, ?_⟩) ?_ ?_
      rotate_left
      · intro w'
        go_simp
        with_reducible rfl
      rotate_left
      · simp only [Act.put, List.setIfInBounds_toArray, List.set_cons_zero, List.set_cons_succ, i64_w, i32_w]
        rfl
      refine pure_ (i := 24) (N := some 106) (v := ?_) (a' := ?_) #[true, true, true, true, true, true, true, true, true, true, true, true, true, true, true, true, true, true, true, true, true, true, true, true, true, false, false, false, false, false, false, false, false, false, false, false, false, false, false, false, false, false, false, false, false, false, false] rfl rfl (any_of HT_.out (by kernel_rfl)) (fun _ _ _ h => h) (Or.inl ⟨by rfl, ?_⟩) ?_ ?_
      rotate_left
      · intro w'
        go_simp
        with_reducible rfl
      rotate_left
      · simp only [Act.put, List.setIfInBounds_toArray, List.set_cons_zero, List.set_cons_succ, i64_w, i32_w]
        rfl
      refine pure_ (i := 27) (N := some 109) (v := ?_) (a' := ?_) #[true, true, true, true, true, true, true, true, true, true, true, true, true, true, true, true, true, true, true, true, true, true, true, true, true, false, false, true, false, false, false, false, false, false, false, false, false, false, false, false, false, false, false, false, false, false, false] rfl rfl (any_of HT_.out (by kernel_rfl)) (fun _ _ _ h => h) (Or.inl ⟨by rfl, ?_⟩) ?_ ?_
      rotate_left
      · intro w'
        go_simp
        with_reducible rfl
      rotate_left
      · simp only [Act.put, List.setIfInBounds_toArray, List.set_cons_zero, List.set_cons_succ, i64_w, i32_w]
        rfl
      refine take_ (i := 28) (N := some 110) (v := ?_) (a' := ?_) #[true, true, true, true, true, true, true, true, true, true, true, true, true, true, true, true, true, true, true, true, true, true, true, true, true, false, false, true, true, false, false, false, false, false, false, false, false, false, false, false, false, false, false, false, false, false, false] rfl rfl (take_ofW HT_.out HW_.out (by kernel_rfl)) (fun _ _ _ h => h) (Or.inl ⟨by rfl, ?_⟩) hHeld ?_ ?_
      rotate_left
      · rintro w' ⟨s0, s1, s2, s3, s4, s5, s6, s7, s8, s9, s10, s11, s12, s13, s14, s15, s16, s17, s18, s19, s20, s21, s22, s23, s24, s25, s26, s27, s28, s29, s30, s31, s32, s33, s34, s35, s36⟩
        go_simp
        with_reducible rfl
      rotate_left
      · simp only [Act.put, List.setIfInBounds_toArray, List.set_cons_zero, List.set_cons_succ, i64_w, i32_w]
        rfl
      refine one_ (i := 25) (N := some 107) #[true, true, true, true, true, true, true, true, true, true, true, true, true, true, true, true, true, true, true, true, true, true, true, true, true, true, false, true, true, false, false, false, false, false, false, false, false, false, false, false, false, false, false, false, false, false, false] rfl rfl (one_of HT_.out (by kernel_rfl)) (by decide) (fun K hK => ?_)
      refine goes_ Try.func15 (by kernel_rfl) rfl #[a.p] (by rfl) rfl rfl (by (try simp only [List.map_toArray, List.map_cons, List.map_nil]); first | done | rfl) ?_
      refine (ram_at (CA1.out.below HX.out) OK.out.r1).mono ?_
      rintro e' wz ⟨v0, rfl, hR, hb⟩
      obtain ⟨A7, c7, rfl, hH⟩ := held_of_R hR
      have HY := Aside0.mk (below_step HX.out hb)
      have ts := hH.text
      clear hb hR hH
      refine ⟨_, rfl, ?_⟩
      refine hK.out _ _ ⟨(blk_cell (blk_below B4.out HY.out) 0).trans rfl, (blk_cell (blk_below B4.out HY.out) 1).trans rfl, (blk_cell (blk_below B4.out HY.out) 2).trans rfl, (blk_cell (blk_below B4.out HY.out) 3).trans rfl, (blk_cell (blk_below B4.out HY.out) 4).trans rfl, (blk_cell (blk_below B4.out HY.out) 5).trans rfl, (blk_cell (blk_below B1.out HY.out) 0).trans rfl, (blk_cell (blk_below B1.out HY.out) 1).trans rfl, (blk_cell (blk_below B1.out HY.out) 2).trans rfl, (blk_cell (blk_below B1.out HY.out) 3).trans rfl, (blk_cell (blk_below B1.out HY.out) 4).trans rfl, (blk_cell (blk_below B1.out HY.out) 5).trans rfl, (blk_cell (blk_below B5.out HY.out) 0).trans rfl, (blk_cell (blk_below B5.out HY.out) 1).trans rfl, (blk_cell (blk_below B5.out HY.out) 2).trans rfl, (blk_cell (blk_below B5.out HY.out) 3).trans rfl, (blk_cell (blk_below B5.out HY.out) 4).trans rfl, (blk_cell (blk_below B5.out HY.out) 5).trans rfl, (blk_cell (blk_below B2.out HY.out) 0).trans rfl, (blk_cell (blk_below B2.out HY.out) 1).trans rfl, (blk_cell (blk_below B2.out HY.out) 2).trans rfl, (blk_cell (blk_below B2.out HY.out) 3).trans rfl, (blk_cell (blk_below B2.out HY.out) 4).trans rfl, (blk_cell (blk_below B2.out HY.out) 5).trans rfl, (blk_cell (blk_below B6.out HY.out) 0).trans rfl, (blk_cell (blk_below B6.out HY.out) 1).trans rfl, (blk_cell (blk_below B6.out HY.out) 2).trans rfl, (blk_cell (blk_below B6.out HY.out) 3).trans rfl, (blk_cell (blk_below B6.out HY.out) 4).trans rfl, (blk_cell (blk_below B6.out HY.out) 5).trans rfl, (blk_cell (blk_below B3.out HY.out) 0).trans rfl, (blk_cell (blk_below B3.out HY.out) 1).trans rfl, (blk_cell (blk_below B3.out HY.out) 2).trans rfl, (blk_cell (blk_below B3.out HY.out) 3).trans rfl, (blk_cell (blk_below B3.out HY.out) 4).trans rfl, (blk_cell (blk_below B3.out HY.out) 5).trans rfl, (HH.out.below HY.out).text⟩ (fun hHeld => ?_)
      clear hK K
      refine norm_ (a' := ?_) ?_ ?_
      rotate_left
      · show Act.put _ (some 107) _ = _
        simp only [Act.put, List.setIfInBounds_toArray, List.set_cons_zero, List.set_cons_succ, i64_w, i32_w]
        rfl
      refine one_ (i := 26) (N := some 108) #[true, true, true, true, true, true, true, true, true, true, true, true, true, true, true, true, true, true, true, true, true, true, true, true, true, true, true, true, true, false, false, false, false, false, false, false, false, false, false, false, false, false, false, false, false, false, false] rfl rfl (one_of HT_.out (by kernel_rfl)) (by decide) (fun K hK => ?_)
      refine event_step (v := .string (strOfNums s2.ram)) (by rfl) (by go_simp; rfl) ?_
      refine hK.out _ _ ⟨(blk_cell (blk_below B4.out HY.out) 0).trans rfl, (blk_cell (blk_below B4.out HY.out) 1).trans rfl, (blk_cell (blk_below B4.out HY.out) 2).trans rfl, (blk_cell (blk_below B4.out HY.out) 3).trans rfl, (blk_cell (blk_below B4.out HY.out) 4).trans rfl, (blk_cell (blk_below B4.out HY.out) 5).trans rfl, (blk_cell (blk_below B1.out HY.out) 0).trans rfl, (blk_cell (blk_below B1.out HY.out) 1).trans rfl, (blk_cell (blk_below B1.out HY.out) 2).trans rfl, (blk_cell (blk_below B1.out HY.out) 3).trans rfl, (blk_cell (blk_below B1.out HY.out) 4).trans rfl, (blk_cell (blk_below B1.out HY.out) 5).trans rfl, (blk_cell (blk_below B5.out HY.out) 0).trans rfl, (blk_cell (blk_below B5.out HY.out) 1).trans rfl, (blk_cell (blk_below B5.out HY.out) 2).trans rfl, (blk_cell (blk_below B5.out HY.out) 3).trans rfl, (blk_cell (blk_below B5.out HY.out) 4).trans rfl, (blk_cell (blk_below B5.out HY.out) 5).trans rfl, (blk_cell (blk_below B2.out HY.out) 0).trans rfl, (blk_cell (blk_below B2.out HY.out) 1).trans rfl, (blk_cell (blk_below B2.out HY.out) 2).trans rfl, (blk_cell (blk_below B2.out HY.out) 3).trans rfl, (blk_cell (blk_below B2.out HY.out) 4).trans rfl, (blk_cell (blk_below B2.out HY.out) 5).trans rfl, (blk_cell (blk_below B6.out HY.out) 0).trans rfl, (blk_cell (blk_below B6.out HY.out) 1).trans rfl, (blk_cell (blk_below B6.out HY.out) 2).trans rfl, (blk_cell (blk_below B6.out HY.out) 3).trans rfl, (blk_cell (blk_below B6.out HY.out) 4).trans rfl, (blk_cell (blk_below B6.out HY.out) 5).trans rfl, (blk_cell (blk_below B3.out HY.out) 0).trans rfl, (blk_cell (blk_below B3.out HY.out) 1).trans rfl, (blk_cell (blk_below B3.out HY.out) 2).trans rfl, (blk_cell (blk_below B3.out HY.out) 3).trans rfl, (blk_cell (blk_below B3.out HY.out) 4).trans rfl, (blk_cell (blk_below B3.out HY.out) 5).trans rfl, (HH.out.below HY.out).text⟩ (fun hHeld => ?_)
      clear hK K
      refine norm_ (a' := ?_) ?_ ?_
      rotate_left
      · show Act.put _ (some 108) _ = _
        simp only [Act.put, List.setIfInBounds_toArray, List.set_cons_zero, List.set_cons_succ, i64_w, i32_w]
        rfl
      refine pure_ (i := 29) (N := some 111) (v := ?_) (a' := ?_) #[true, true, true, true, true, true, true, true, true, true, true, true, true, true, true, true, true, true, true, true, true, true, true, true, true, true, true, true, true, true, false, false, false, false, false, false, false, false, false, false, false, false, false, false, false, false, false] rfl rfl (any_of HT_.out (by kernel_rfl)) (fun _ _ _ h => h) (Or.inl ⟨by rfl, ?_⟩) ?_ ?_
      rotate_left
      · intro w'
        go_simp
        with_reducible rfl
      rotate_left
      · simp only [Act.put, List.setIfInBounds_toArray, List.set_cons_zero, List.set_cons_succ, i64_w, i32_w]
        rfl
      refine pure_ (i := 30) (N := some 112) (v := ?_) (a' := ?_) #[true, true, true, true, true, true, true, true, true, true, true, true, true, true, true, true, true, true, true, true, true, true, true, true, true, true, true, true, true, true, true, false, false, false, false, false, false, false, false, false, false, false, false, false, false, false, false] rfl rfl (any_of HT_.out (by kernel_rfl)) (fun _ _ _ h => h) (Or.inl ⟨by rfl, ?_⟩) ?_ ?_
      rotate_left
      · intro w'
        go_simp
        with_reducible rfl
      rotate_left
      · simp only [Act.put, List.setIfInBounds_toArray, List.set_cons_zero, List.set_cons_succ, i64_w, i32_w]
        rfl
      refine pure_ (i := 31) (N := some 113) (v := ?_) (a' := ?_) #[true, true, true, true, true, true, true, true, true, true, true, true, true, true, true, true, true, true, true, true, true, true, true, true, true, true, true, true, true, true, true, true, false, false, false, false, false, false, false, false, false, false, false, false, false, false, false] rfl rfl (any_of HT_.out (by kernel_rfl)) (fun _ _ _ h => h) (Or.inl ⟨by rfl, ?_⟩) ?_ ?_
      rotate_left
      · intro w'
        go_simp
        with_reducible rfl
      rotate_left
      · simp only [Act.put, List.setIfInBounds_toArray, List.set_cons_zero, List.set_cons_succ, i64_w, i32_w]
        rfl
      refine take_ (i := 32) (N := some 114) (v := ?_) (a' := ?_) #[true, true, true, true, true, true, true, true, true, true, true, true, true, true, true, true, true, true, true, true, true, true, true, true, true, true, true, true, true, true, true, true, true, false, false, false, false, false, false, false, false, false, false, false, false, false, false] rfl rfl (take_ofW HT_.out HW_.out (by kernel_rfl)) (fun _ _ _ h => h) (Or.inl ⟨by rfl, ?_⟩) hHeld ?_ ?_
      rotate_left
      · rintro w' ⟨s0, s1, s2, s3, s4, s5, s6, s7, s8, s9, s10, s11, s12, s13, s14, s15, s16, s17, s18, s19, s20, s21, s22, s23, s24, s25, s26, s27, s28, s29, s30, s31, s32, s33, s34, s35, s36⟩
        go_simp
        with_reducible rfl
      rotate_left
      · simp only [Act.put, List.setIfInBounds_toArray, List.set_cons_zero, List.set_cons_succ, i64_w, i32_w]
        rfl
      refine take_ (i := 33) (N := some 115) (v := ?_) (a' := ?_) #[true, true, true, true, true, true, true, true, true, true, true, true, true, true, true, true, true, true, true, true, true, true, true, true, true, true, true, true, true, true, true, true, true, true, false, false, false, false, false, false, false, false, false, false, false, false, false] rfl rfl (take_ofW HT_.out HW_.out (by kernel_rfl)) (fun _ _ _ h => h) (Or.inl ⟨by rfl, ?_⟩) hHeld ?_ ?_
      rotate_left
      · rintro w' ⟨s0, s1, s2, s3, s4, s5, s6, s7, s8, s9, s10, s11, s12, s13, s14, s15, s16, s17, s18, s19, s20, s21, s22, s23, s24, s25, s26, s27, s28, s29, s30, s31, s32, s33, s34, s35, s36⟩
        go_simp
        with_reducible rfl
      rotate_left
      · simp only [Act.put, List.setIfInBounds_toArray, List.set_cons_zero, List.set_cons_succ, i64_w, i32_w]
        rfl
      refine pure_ (i := 34) (N := some 116) (v := ?_) (a' := ?_) #[true, true, true, true, true, true, true, true, true, true, true, true, true, true, true, true, true, true, true, true, true, true, true, true, true, true, true, true, true, true, true, true, true, true, true, false, false, false, false, false, false, false, false, false, false, false, false] rfl rfl (any_of HT_.out (by kernel_rfl)) (fun _ _ _ h => h) (Or.inl ⟨by rfl, ?_⟩) ?_ ?_
      rotate_left
      · intro w'
        go_simp
        with_reducible rfl
      rotate_left
      · simp only [Act.put, List.setIfInBounds_toArray, List.set_cons_zero, List.set_cons_succ, i64_w, i32_w]
        rfl
      refine pure_ (i := 35) (N := some 117) (v := ?_) (a' := ?_) #[true, true, true, true, true, true, true, true, true, true, true, true, true, true, true, true, true, true, true, true, true, true, true, true, true, true, true, true, true, true, true, true, true, true, true, true, false, false, false, false, false, false, false, false, false, false, false] rfl rfl (any_of HT_.out (by kernel_rfl)) (fun _ _ _ h => h) (Or.inl ⟨by rfl, ?_⟩) ?_ ?_
      rotate_left
      · intro w'
        go_simp
        with_reducible rfl
      rotate_left
      · simp only [Act.put, List.setIfInBounds_toArray, List.set_cons_zero, List.set_cons_succ, i64_w, i32_w]
        rfl
      refine pure_ (i := 36) (N := some 118) (v := ?_) (a' := ?_) #[true, true, true, true, true, true, true, true, true, true, true, true, true, true, true, true, true, true, true, true, true, true, true, true, true, true, true, true, true, true, true, true, true, true, true, true, true, false, false, false, false, false, false, false, false, false, false] rfl rfl (any_of HT_.out (by kernel_rfl)) (fun _ _ _ h => h) (Or.inl ⟨by rfl, ?_⟩) ?_ ?_
      rotate_left
      · intro w'
        go_simp
        with_reducible rfl
      rotate_left
      · simp only [Act.put, List.setIfInBounds_toArray, List.set_cons_zero, List.set_cons_succ, i64_w, i32_w]
        rfl
      refine take_ (i := 37) (N := some 119) (v := ?_) (a' := ?_) #[true, true, true, true, true, true, true, true, true, true, true, true, true, true, true, true, true, true, true, true, true, true, true, true, true, true, true, true, true, true, true, true, true, true, true, true, true, true, false, false, false, false, false, false, false, false, false] rfl rfl (take_ofW HT_.out HW_.out (by kernel_rfl)) (fun _ _ _ h => h) (Or.inl ⟨by rfl, ?_⟩) hHeld ?_ ?_
      rotate_left
      · rintro w' ⟨s0, s1, s2, s3, s4, s5, s6, s7, s8, s9, s10, s11, s12, s13, s14, s15, s16, s17, s18, s19, s20, s21, s22, s23, s24, s25, s26, s27, s28, s29, s30, s31, s32, s33, s34, s35, s36⟩
        go_simp
        with_reducible rfl
      rotate_left
      · simp only [Act.put, List.setIfInBounds_toArray, List.set_cons_zero, List.set_cons_succ, i64_w, i32_w]
        rfl
      refine take_ (i := 38) (N := some 120) (v := ?_) (a' := ?_) #[true, true, true, true, true, true, true, true, true, true, true, true, true, true, true, true, true, true, true, true, true, true, true, true, true, true, true, true, true, true, true, true, true, true, true, true, true, true, true, false, false, false, false, false, false, false, false] rfl rfl (take_ofW HT_.out HW_.out (by kernel_rfl)) (fun _ _ _ h => h) (Or.inl ⟨by rfl, ?_⟩) hHeld ?_ ?_
      rotate_left
      · rintro w' ⟨s0, s1, s2, s3, s4, s5, s6, s7, s8, s9, s10, s11, s12, s13, s14, s15, s16, s17, s18, s19, s20, s21, s22, s23, s24, s25, s26, s27, s28, s29, s30, s31, s32, s33, s34, s35, s36⟩
        go_simp
        with_reducible rfl
      rotate_left
      · simp only [Act.put, List.setIfInBounds_toArray, List.set_cons_zero, List.set_cons_succ, i64_w, i32_w]
        rfl
      refine pure_ (i := 39) (N := some 121) (v := ?_) (a' := ?_) #[true, true, true, true, true, true, true, true, true, true, true, true, true, true, true, true, true, true, true, true, true, true, true, true, true, true, true, true, true, true, true, true, true, true, true, true, true, true, true, true, false, false, false, false, false, false, false] rfl rfl (any_of HT_.out (by kernel_rfl)) (fun _ _ _ h => h) (Or.inl ⟨by rfl, ?_⟩) ?_ ?_
      rotate_left
      · intro w'
        go_simp
        with_reducible rfl
      rotate_left
      · simp only [Act.put, List.setIfInBounds_toArray, List.set_cons_zero, List.set_cons_succ, i64_w, i32_w]
        rfl
      refine pure_ (i := 40) (N := some 122) (v := ?_) (a' := ?_) #[true, true, true, true, true, true, true, true, true, true, true, true, true, true, true, true, true, true, true, true, true, true, true, true, true, true, true, true, true, true, true, true, true, true, true, true, true, true, true, true, true, false, false, false, false, false, false] rfl rfl (any_of HT_.out (by kernel_rfl)) (fun _ _ _ h => h) (Or.inl ⟨by rfl, ?_⟩) ?_ ?_
      rotate_left
      · intro w'
        go_simp
        with_reducible rfl
      rotate_left
      · simp only [Act.put, List.setIfInBounds_toArray, List.set_cons_zero, List.set_cons_succ, i64_w, i32_w]
        rfl
      refine pure_ (i := 41) (N := some 123) (v := ?_) (a' := ?_) #[true, true, true, true, true, true, true, true, true, true, true, true, true, true, true, true, true, true, true, true, true, true, true, true, true, true, true, true, true, true, true, true, true, true, true, true, true, true, true, true, true, true, false, false, false, false, false] rfl rfl (any_of HT_.out (by kernel_rfl)) (fun _ _ _ h => h) (Or.inl ⟨by rfl, ?_⟩) ?_ ?_
      rotate_left
      · intro w'
        go_simp
        with_reducible rfl
      rotate_left
      · simp only [Act.put, List.setIfInBounds_toArray, List.set_cons_zero, List.set_cons_succ, i64_w, i32_w]
        rfl
      refine take_ (i := 42) (N := some 124) (v := ?_) (a' := ?_) #[true, true, true, true, true, true, true, true, true, true, true, true, true, true, true, true, true, true, true, true, true, true, true, true, true, true, true, true, true, true, true, true, true, true, true, true, true, true, true, true, true, true, true, false, false, false, false] rfl rfl (take_ofW HT_.out HW_.out (by kernel_rfl)) (fun _ _ _ h => h) (Or.inl ⟨by rfl, ?_⟩) hHeld ?_ ?_
      rotate_left
      · rintro w' ⟨s0, s1, s2, s3, s4, s5, s6, s7, s8, s9, s10, s11, s12, s13, s14, s15, s16, s17, s18, s19, s20, s21, s22, s23, s24, s25, s26, s27, s28, s29, s30, s31, s32, s33, s34, s35, s36⟩
        go_simp
        with_reducible rfl
      rotate_left
      · simp only [Act.put, List.setIfInBounds_toArray, List.set_cons_zero, List.set_cons_succ, i64_w, i32_w]
        rfl
      refine take_ (i := 43) (N := some 125) (v := ?_) (a' := ?_) #[true, true, true, true, true, true, true, true, true, true, true, true, true, true, true, true, true, true, true, true, true, true, true, true, true, true, true, true, true, true, true, true, true, true, true, true, true, true, true, true, true, true, true, true, false, false, false] rfl rfl (take_ofW HT_.out HW_.out (by kernel_rfl)) (fun _ _ _ h => h) (Or.inl ⟨by rfl, ?_⟩) hHeld ?_ ?_
      rotate_left
      · rintro w' ⟨s0, s1, s2, s3, s4, s5, s6, s7, s8, s9, s10, s11, s12, s13, s14, s15, s16, s17, s18, s19, s20, s21, s22, s23, s24, s25, s26, s27, s28, s29, s30, s31, s32, s33, s34, s35, s36⟩
        go_simp
        with_reducible rfl
      rotate_left
      · simp only [Act.put, List.setIfInBounds_toArray, List.set_cons_zero, List.set_cons_succ, i64_w, i32_w]
        rfl
      refine pure_ (i := 44) (N := some 126) (v := ?_) (a' := ?_) #[true, true, true, true, true, true, true, true, true, true, true, true, true, true, true, true, true, true, true, true, true, true, true, true, true, true, true, true, true, true, true, true, true, true, true, true, true, true, true, true, true, true, true, true, true, false, false] rfl rfl (any_of HT_.out (by kernel_rfl)) (fun _ _ _ h => h) (Or.inl ⟨by rfl, ?_⟩) ?_ ?_
      rotate_left
      · intro w'
        go_simp
        with_reducible rfl
      rotate_left
      · simp only [Act.put, List.setIfInBounds_toArray, List.set_cons_zero, List.set_cons_succ, i64_w, i32_w]
        rfl
      refine pure_ (i := 45) (N := some 127) (v := ?_) (a' := ?_) #[true, true, true, true, true, true, true, true, true, true, true, true, true, true, true, true, true, true, true, true, true, true, true, true, true, true, true, true, true, true, true, true, true, true, true, true, true, true, true, true, true, true, true, true, true, true, false] rfl rfl (any_of HT_.out (by kernel_rfl)) (fun _ _ _ h => h) (Or.inl ⟨by rfl, ?_⟩) ?_ ?_
      rotate_left
      · intro w'
        go_simp
        with_reducible rfl
      rotate_left
      · simp only [Act.put, List.setIfInBounds_toArray, List.set_cons_zero, List.set_cons_succ, i64_w, i32_w]
        rfl
      refine pure_ (i := 46) (N := some 6) (v := ?_) (a' := ?_) #[true, true, true, true, true, true, true, true, true, true, true, true, true, true, true, true, true, true, true, true, true, true, true, true, true, true, true, true, true, true, true, true, true, true, true, true, true, true, true, true, true, true, true, true, true, true, true] rfl rfl (any_of HT_.out (by kernel_rfl)) (fun _ _ _ h => h) (Or.inl ⟨by rfl, ?_⟩) ?_ ?_
      rotate_left
      · intro w'
        go_simp
        with_reducible rfl
      rotate_left
      · simp only [Act.put, List.setIfInBounds_toArray, List.set_cons_zero, List.set_cons_succ, i64_w, i32_w]
        rfl
      refine done_ (done_of HT_.out (by kernel_rfl)) ?_
      go_wp2
      go_returns
      exact ⟨rfl, below_step HB4.out HY.out⟩
    case neg =>
    by_cases e5 : e = 5
    case pos =>
      have HD := Aside0.mk (below_drew1 (Below.refl w10.heap.size w10))
      have h5' := h5.resolve_left e7
      subst e5
      have hbt : s2.hdr.bt = true := by simpa using h7
      have hq : ¬ l2.length = s2.saveL.length := by simpa using h5'
      have hln : ((l2.length : Int) != (s2.saveL.length : Int)) = true := by rw [bne_iff_ne]; omega
      clear hq
      clear h5'
      have HBT := Aside0.mk hbt
      clear hbt h7 h5 e7
      have hfl := field_bt
      go_wp2_with fail
      refine start_ (n := 47) (S := fun w' => w'.cell? ⟨w9.heap.size, 0, none⟩ = some (.int .i64 s2.mp.k) ∧ w'.cell? ⟨w9.heap.size, 1, none⟩ = some (.bool s2.mp.o) ∧ w'.cell? ⟨w9.heap.size, 2, none⟩ = some (.int .u8 s2.mp.l) ∧ w'.cell? ⟨w9.heap.size, 3, none⟩ = some (.int .u8 s2.mp.h) ∧ w'.cell? ⟨w9.heap.size, 4, none⟩ = some (.int .u8 s2.mp.r) ∧ w'.cell? ⟨w9.heap.size, 5, none⟩ = some (.bool s2.mp.md) ∧ w'.cell? ⟨w5.heap.size, 0, none⟩ = some (.int .i64 s2.mp.k) ∧ w'.cell? ⟨w5.heap.size, 1, none⟩ = some (.bool s2.mp.o) ∧ w'.cell? ⟨w5.heap.size, 2, none⟩ = some (.int .u8 s2.mp.l) ∧ w'.cell? ⟨w5.heap.size, 3, none⟩ = some (.int .u8 s2.mp.h) ∧ w'.cell? ⟨w5.heap.size, 4, none⟩ = some (.int .u8 s2.mp.r) ∧ w'.cell? ⟨w5.heap.size, 5, none⟩ = some (.bool s2.mp.md) ∧ w'.cell? ⟨w9.heap.size + 1, 0, none⟩ = some (.int .u8 s2.lv.s) ∧ w'.cell? ⟨w9.heap.size + 1, 1, none⟩ = some (.int .u8 s2.lv.m) ∧ w'.cell? ⟨w9.heap.size + 1, 2, none⟩ = some (.int .u8 s2.lv.h) ∧ w'.cell? ⟨w9.heap.size + 1, 3, none⟩ = some (.int .u16 s2.lv.d) ∧ w'.cell? ⟨w9.heap.size + 1, 4, none⟩ = some (.bool s2.lv.ht) ∧ w'.cell? ⟨w9.heap.size + 1, 5, none⟩ = some (.bool s2.lv.cy) ∧ w'.cell? ⟨w5.heap.size + 1, 0, none⟩ = some (.int .u8 s2.lv.s) ∧ w'.cell? ⟨w5.heap.size + 1, 1, none⟩ = some (.int .u8 s2.lv.m) ∧ w'.cell? ⟨w5.heap.size + 1, 2, none⟩ = some (.int .u8 s2.lv.h) ∧ w'.cell? ⟨w5.heap.size + 1, 3, none⟩ = some (.int .u16 s2.lv.d) ∧ w'.cell? ⟨w5.heap.size + 1, 4, none⟩ = some (.bool s2.lv.ht) ∧ w'.cell? ⟨w5.heap.size + 1, 5, none⟩ = some (.bool s2.lv.cy) ∧ w'.cell? ⟨w9.heap.size + 2, 0, none⟩ = some (.int .u8 s2.hd.s) ∧ w'.cell? ⟨w9.heap.size + 2, 1, none⟩ = some (.int .u8 s2.hd.m) ∧ w'.cell? ⟨w9.heap.size + 2, 2, none⟩ = some (.int .u8 s2.hd.h) ∧ w'.cell? ⟨w9.heap.size + 2, 3, none⟩ = some (.int .u16 s2.hd.d) ∧ w'.cell? ⟨w9.heap.size + 2, 4, none⟩ = some (.bool s2.hd.ht) ∧ w'.cell? ⟨w9.heap.size + 2, 5, none⟩ = some (.bool s2.hd.cy) ∧ w'.cell? ⟨w5.heap.size + 2, 0, none⟩ = some (.int .u8 s2.hd.s) ∧ w'.cell? ⟨w5.heap.size + 2, 1, none⟩ = some (.int .u8 s2.hd.m) ∧ w'.cell? ⟨w5.heap.size + 2, 2, none⟩ = some (.int .u8 s2.hd.h) ∧ w'.cell? ⟨w5.heap.size + 2, 3, none⟩ = some (.int .u16 s2.hd.d) ∧ w'.cell? ⟨w5.heap.size + 2, 4, none⟩ = some (.bool s2.hd.ht) ∧ w'.cell? ⟨w5.heap.size + 2, 5, none⟩ = some (.bool s2.hd.cy) ∧ (convert 22 9 (.slice A5 s2.ram.length c5)).run Try.prog w' = .ok (.string (strOfNums s2.ram)) w') (ds := []) #[false, false, false, false, false, false, false, false, false, false, false, false, false, false, false, false, false, false, false, false, false, false, false, false, false, false, false, false, false, false, false, false, false, false, false, false, false, false, false, false, false, false, false, false, false, false, false] (by kernel_rfl) rfl rfl ⟨(blk_cell (blk_below B4.out HD.out) 0).trans rfl, (blk_cell (blk_below B4.out HD.out) 1).trans rfl, (blk_cell (blk_below B4.out HD.out) 2).trans rfl, (blk_cell (blk_below B4.out HD.out) 3).trans rfl, (blk_cell (blk_below B4.out HD.out) 4).trans rfl, (blk_cell (blk_below B4.out HD.out) 5).trans rfl, (blk_cell (blk_below B1.out HD.out) 0).trans rfl, (blk_cell (blk_below B1.out HD.out) 1).trans rfl, (blk_cell (blk_below B1.out HD.out) 2).trans rfl, (blk_cell (blk_below B1.out HD.out) 3).trans rfl, (blk_cell (blk_below B1.out HD.out) 4).trans rfl, (blk_cell (blk_below B1.out HD.out) 5).trans rfl, (blk_cell (blk_below B5.out HD.out) 0).trans rfl, (blk_cell (blk_below B5.out HD.out) 1).trans rfl, (blk_cell (blk_below B5.out HD.out) 2).trans rfl, (blk_cell (blk_below B5.out HD.out) 3).trans rfl, (blk_cell (blk_below B5.out HD.out) 4).trans rfl, (blk_cell (blk_below B5.out HD.out) 5).trans rfl, (blk_cell (blk_below B2.out HD.out) 0).trans rfl, (blk_cell (blk_below B2.out HD.out) 1).trans rfl, (blk_cell (blk_below B2.out HD.out) 2).trans rfl, (blk_cell (blk_below B2.out HD.out) 3).trans rfl, (blk_cell (blk_below B2.out HD.out) 4).trans rfl, (blk_cell (blk_below B2.out HD.out) 5).trans rfl, (blk_cell (blk_below B6.out HD.out) 0).trans rfl, (blk_cell (blk_below B6.out HD.out) 1).trans rfl, (blk_cell (blk_below B6.out HD.out) 2).trans rfl, (blk_cell (blk_below B6.out HD.out) 3).trans rfl, (blk_cell (blk_below B6.out HD.out) 4).trans rfl, (blk_cell (blk_below B6.out HD.out) 5).trans rfl, (blk_cell (blk_below B3.out HD.out) 0).trans rfl, (blk_cell (blk_below B3.out HD.out) 1).trans rfl, (blk_cell (blk_below B3.out HD.out) 2).trans rfl, (blk_cell (blk_below B3.out HD.out) 3).trans rfl, (blk_cell (blk_below B3.out HD.out) 4).trans rfl, (blk_cell (blk_below B3.out HD.out) 5).trans rfl, (HH.out.below HD.out).text⟩ (fun hHeld => ?_)
      refine with_tabW loads13.tab loads13.bits (fun HT_ HW_ => ?_)
      refine pure_ (i := 0) (N := some 82) (v := ?_) (a' := ?_) #[true, false, false, false, false, false, false, false, false, false, false, false, false, false, false, false, false, false, false, false, false, false, false, false, false, false, false, false, false, false, false, false, false, false, false, false, false, false, false, false, false, false, false, false, false, false, false] rfl rfl (any_of HT_.out (by kernel_rfl)) (fun _ _ _ h => h) (Or.inl ⟨by rfl, ?_⟩) ?_ ?_
      rotate_left
      · intro w'
        go_simp
        with_reducible rfl
      rotate_left
      · simp only [Act.put, List.setIfInBounds_toArray, List.set_cons_zero, List.set_cons_succ, i64_w, i32_w]
        rfl
      refine pure_ (i := 1) (N := some 83) (v := ?_) (a' := ?_) #[true, true, false, false, false, false, false, false, false, false, false, false, false, false, false, false, false, false, false, false, false, false, false, false, false, false, false, false, false, false, false, false, false, false, false, false, false, false, false, false, false, false, false, false, false, false, false] rfl rfl (any_of HT_.out (by kernel_rfl)) (fun _ _ _ h => h) (Or.inl ⟨by rfl, ?_⟩) ?_ ?_
      rotate_left
      · intro w'
        go_simp
        with_reducible rfl
      rotate_left
      · simp only [Act.put, List.setIfInBounds_toArray, List.set_cons_zero, List.set_cons_succ, i64_w, i32_w]
        rfl
      refine pure_ (i := 2) (N := some 84) (v := ?_) (a' := ?_) #[true, true, true, false, false, false, false, false, false, false, false, false, false, false, false, false, false, false, false, false, false, false, false, false, false, false, false, false, false, false, false, false, false, false, false, false, false, false, false, false, false, false, false, false, false, false, false] rfl rfl (any_of HT_.out (by kernel_rfl)) (fun _ _ _ h => h) (Or.inl ⟨by rfl, ?_⟩) ?_ ?_
      rotate_left
      · intro w'
        go_simp
        with_reducible rfl
      rotate_left
      · simp only [Act.put, List.setIfInBounds_toArray, List.set_cons_zero, List.set_cons_succ, i64_w, i32_w]
        rfl
      refine pure_ (i := 3) (N := some 85) (v := ?_) (a' := ?_) #[true, true, true, true, false, false, false, false, false, false, false, false, false, false, false, false, false, false, false, false, false, false, false, false, false, false, false, false, false, false, false, false, false, false, false, false, false, false, false, false, false, false, false, false, false, false, false] rfl rfl (any_of HT_.out (by kernel_rfl)) (fun _ _ _ h => h) (Or.inl ⟨by rfl, ?_⟩) ?_ ?_
      rotate_left
      · intro w'
        go_simp
        with_reducible rfl
      rotate_left
      · simp only [Act.put, List.setIfInBounds_toArray, List.set_cons_zero, List.set_cons_succ, i64_w, i32_w]
        rfl
      refine pure_ (i := 4) (N := some 86) (v := ?_) (a' := ?_) #[true, true, true, true, true, false, false, false, false, false, false, false, false, false, false, false, false, false, false, false, false, false, false, false, false, false, false, false, false, false, false, false, false, false, false, false, false, false, false, false, false, false, false, false, false, false, false] rfl rfl (any_of HT_.out (by kernel_rfl)) (fun _ _ _ h => h) (Or.inl ⟨by rfl, ?_⟩) ?_ ?_
      rotate_left
      · intro w'
        go_simp
        with_reducible rfl
      rotate_left
      · simp only [Act.put, List.setIfInBounds_toArray, List.set_cons_zero, List.set_cons_succ, i64_w, i32_w]
        rfl
      refine one_ (i := 5) (N := some 87) #[true, true, true, true, true, true, false, false, false, false, false, false, false, false, false, false, false, false, false, false, false, false, false, false, false, false, false, false, false, false, false, false, false, false, false, false, false, false, false, false, false, false, false, false, false, false, false] rfl rfl (one_of HT_.out (by kernel_rfl)) (by decide) (fun K hK => ?_)
      refine goes_ Try.func12 (by kernel_rfl) rfl #[a.p] (by rfl) rfl rfl (by (try simp only [List.map_toArray, List.map_cons, List.map_nil]); first | done | rfl) ?_
      refine (head_bt (CA1.out.below HD.out) true HBT.out).mono ?_
      rintro e' wy ⟨rfl, hb⟩
      have HX := Aside0.mk (below_step HD.out hb)
      clear hb
      refine ⟨_, rfl, ?_⟩
      refine hK.out _ _ ⟨(blk_cell (blk_below B4.out HX.out) 0).trans rfl, (blk_cell (blk_below B4.out HX.out) 1).trans rfl, (blk_cell (blk_below B4.out HX.out) 2).trans rfl, (blk_cell (blk_below B4.out HX.out) 3).trans rfl, (blk_cell (blk_below B4.out HX.out) 4).trans rfl, (blk_cell (blk_below B4.out HX.out) 5).trans rfl, (blk_cell (blk_below B1.out HX.out) 0).trans rfl, (blk_cell (blk_below B1.out HX.out) 1).trans rfl, (blk_cell (blk_below B1.out HX.out) 2).trans rfl, (blk_cell (blk_below B1.out HX.out) 3).trans rfl, (blk_cell (blk_below B1.out HX.out) 4).trans rfl, (blk_cell (blk_below B1.out HX.out) 5).trans rfl, (blk_cell (blk_below B5.out HX.out) 0).trans rfl, (blk_cell (blk_below B5.out HX.out) 1).trans rfl, (blk_cell (blk_below B5.out HX.out) 2).trans rfl, (blk_cell (blk_below B5.out HX.out) 3).trans rfl, (blk_cell (blk_below B5.out HX.out) 4).trans rfl, (blk_cell (blk_below B5.out HX.out) 5).trans rfl, (blk_cell (blk_below B2.out HX.out) 0).trans rfl, (blk_cell (blk_below B2.out HX.out) 1).trans rfl, (blk_cell (blk_below B2.out HX.out) 2).trans rfl, (blk_cell (blk_below B2.out HX.out) 3).trans rfl, (blk_cell (blk_below B2.out HX.out) 4).trans rfl, (blk_cell (blk_below B2.out HX.out) 5).trans rfl, (blk_cell (blk_below B6.out HX.out) 0).trans rfl, (blk_cell (blk_below B6.out HX.out) 1).trans rfl, (blk_cell (blk_below B6.out HX.out) 2).trans rfl, (blk_cell (blk_below B6.out HX.out) 3).trans rfl, (blk_cell (blk_below B6.out HX.out) 4).trans rfl, (blk_cell (blk_below B6.out HX.out) 5).trans rfl, (blk_cell (blk_below B3.out HX.out) 0).trans rfl, (blk_cell (blk_below B3.out HX.out) 1).trans rfl, (blk_cell (blk_below B3.out HX.out) 2).trans rfl, (blk_cell (blk_below B3.out HX.out) 3).trans rfl, (blk_cell (blk_below B3.out HX.out) 4).trans rfl, (blk_cell (blk_below B3.out HX.out) 5).trans rfl, (HH.out.below HX.out).text⟩ (fun hHeld => ?_)
      clear hK K
      refine norm_ (a' := ?_) ?_ ?_
      rotate_left
      · show Act.put _ (some 87) _ = _
        simp only [Act.put, List.setIfInBounds_toArray, List.set_cons_zero, List.set_cons_succ, i64_w, i32_w]
        rfl
      refine pure_ (i := 6) (N := some 88) (v := ?_) (a' := ?_) #[true, true, true, true, true, true, true, false, false, false, false, false, false, false, false, false, false, false, false, false, false, false, false, false, false, false, false, false, false, false, false, false, false, false, false, false, false, false, false, false, false, false, false, false, false, false, false] rfl rfl (any_of HT_.out (by kernel_rfl)) (fun _ _ _ h => h) (Or.inl ⟨by rfl, ?_⟩) ?_ ?_
      rotate_left
      · intro w'
        go_simp
        with_reducible rfl
      rotate_left
      · simp only [Act.put, List.setIfInBounds_toArray, List.set_cons_zero, List.set_cons_succ, i64_w, i32_w]
        rfl
      refine pure_ (i := 7) (N := some 89) (v := ?_) (a' := ?_) #[true, true, true, true, true, true, true, true, false, false, false, false, false, false, false, false, false, false, false, false, false, false, false, false, false, false, false, false, false, false, false, false, false, false, false, false, false, false, false, false, false, false, false, false, false, false, false] rfl rfl (any_of HT_.out (by kernel_rfl)) (fun _ _ _ h => h) (Or.inl ⟨by rfl, ?_⟩) ?_ ?_
      rotate_left
      · intro w'
        go_simp
        with_reducible rfl
      rotate_left
      · simp only [Act.put, List.setIfInBounds_toArray, List.set_cons_zero, List.set_cons_succ, i64_w, i32_w]
        rfl
      refine pure_ (i := 8) (N := some 90) (v := ?_) (a' := ?_) #[true, true, true, true, true, true, true, true, true, false, false, false, false, false, false, false, false, false, false, false, false, false, false, false, false, false, false, false, false, false, false, false, false, false, false, false, false, false, false, false, false, false, false, false, false, false, false] rfl rfl (any_of HT_.out (by kernel_rfl)) (fun _ _ _ h => h) (Or.inl ⟨by rfl, ?_⟩) ?_ ?_
      rotate_left
      · intro w'
        go_simp
        with_reducible rfl
      rotate_left
      · simp only [Act.put, List.setIfInBounds_toArray, List.set_cons_zero, List.set_cons_succ, i64_w, i32_w]
        rfl
      refine pure_ (i := 9) (N := some 91) (v := ?_) (a' := ?_) #[true, true, true, true, true, true, true, true, true, true, false, false, false, false, false, false, false, false, false, false, false, false, false, false, false, false, false, false, false, false, false, false, false, false, false, false, false, false, false, false, false, false, false, false, false, false, false] rfl rfl (any_of HT_.out (by kernel_rfl)) (fun _ _ _ h => h) (Or.inl ⟨by rfl, ?_⟩) ?_ ?_
      rotate_left
      · intro w'
        go_simp
        with_reducible rfl
      rotate_left
      · simp only [Act.put, List.setIfInBounds_toArray, List.set_cons_zero, List.set_cons_succ, i64_w, i32_w]
        rfl
      refine pure_ (i := 10) (N := some 92) (v := ?_) (a' := ?_) #[true, true, true, true, true, true, true, true, true, true, true, false, false, false, false, false, false, false, false, false, false, false, false, false, false, false, false, false, false, false, false, false, false, false, false, false, false, false, false, false, false, false, false, false, false, false, false] rfl rfl (any_of HT_.out (by kernel_rfl)) (fun _ _ _ h => h) (Or.inl ⟨by rfl, ?_⟩) ?_ ?_
      rotate_left
      · intro w'
        go_simp
        with_reducible rfl
      rotate_left
      · simp only [Act.put, List.setIfInBounds_toArray, List.set_cons_zero, List.set_cons_succ, i64_w, i32_w]
        rfl
      refine pure_ (i := 11) (N := some 93) (v := ?_) (a' := ?_) #[true, true, true, true, true, true, true, true, true, true, true, true, false, false, false, false, false, false, false, false, false, false, false, false, false, false, false, false, false, false, false, false, false, false, false, false, false, false, false, false, false, false, false, false, false, false, false] rfl rfl (any_of HT_.out (by kernel_rfl)) (fun _ _ _ h => h) (Or.inl ⟨by rfl, ?_⟩) ?_ ?_
      rotate_left
      · intro w'
        go_simp
        with_reducible rfl
      rotate_left
      · simp only [Act.put, List.setIfInBounds_toArray, List.set_cons_zero, List.set_cons_succ, i64_w, i32_w]
        rfl
      refine pure_ (i := 12) (N := some 94) (v := ?_) (a' := ?_) #[true, true, true, true, true, true, true, true, true, true, true, true, true, false, false, false, false, false, false, false, false, false, false, false, false, false, false, false, false, false, false, false, false, false, false, false, false, false, false, false, false, false, false, false, false, false, false] rfl rfl (any_of HT_.out (by kernel_rfl)) (fun _ _ _ h => h) (Or.inl ⟨by rfl, ?_⟩) ?_ ?_
      rotate_left
      · intro w'
        go_simp
        with_reducible rfl
      rotate_left
      · simp only [Act.put, List.setIfInBounds_toArray, List.set_cons_zero, List.set_cons_succ, i64_w, i32_w]
        rfl
      refine pure_ (i := 13) (N := some 95) (v := ?_) (a' := ?_) #[true, true, true, true, true, true, true, true, true, true, true, true, true, true, false, false, false, false, false, false, false, false, false, false, false, false, false, false, false, false, false, false, false, false, false, false, false, false, false, false, false, false, false, false, false, false, false] rfl rfl (any_of HT_.out (by kernel_rfl)) (fun _ _ _ h => h) (Or.inl ⟨by rfl, ?_⟩) ?_ ?_
      rotate_left
      · intro w'
        go_simp
        with_reducible rfl
      rotate_left
      · simp only [Act.put, List.setIfInBounds_toArray, List.set_cons_zero, List.set_cons_succ, i64_w, i32_w]
        rfl
      refine pure_ (i := 14) (N := some 96) (v := ?_) (a' := ?_) #[true, true, true, true, true, true, true, true, true, true, true, true, true, true, true, false, false, false, false, false, false, false, false, false, false, false, false, false, false, false, false, false, false, false, false, false, false, false, false, false, false, false, false, false, false, false, false] rfl rfl (any_of HT_.out (by kernel_rfl)) (fun _ _ _ h => h) (Or.inl ⟨by rfl, ?_⟩) ?_ ?_
      rotate_left
      · intro w'
        go_simp
        with_reducible rfl
      rotate_left
      · simp only [Act.put, List.setIfInBounds_toArray, List.set_cons_zero, List.set_cons_succ, i64_w, i32_w]
        rfl
      refine pure_ (i := 15) (N := some 97) (v := ?_) (a' := ?_) #[true, true, true, true, true, true, true, true, true, true, true, true, true, true, true, true, false, false, false, false, false, false, false, false, false, false, false, false, false, false, false, false, false, false, false, false, false, false, false, false, false, false, false, false, false, false, false] rfl rfl (any_of HT_.out (by kernel_rfl)) (fun _ _ _ h => h) (Or.inl ⟨by rfl, ?_⟩) ?_ ?_
      rotate_left
      · intro w'
        go_simp
        with_reducible rfl
      rotate_left
      · simp only [Act.put, List.setIfInBounds_toArray, List.set_cons_zero, List.set_cons_succ, i64_w, i32_w]
        rfl
      refine pure_ (i := 16) (N := some 98) (v := ?_) (a' := ?_) #[true, true, true, true, true, true, true, true, true, true, true, true, true, true, true, true, true, false, false, false, false, false, false, false, false, false, false, false, false, false, false, false, false, false, false, false, false, false, false, false, false, false, false, false, false, false, false] rfl rfl (any_of HT_.out (by kernel_rfl)) (fun _ _ _ h => h) (Or.inl ⟨by rfl, ?_⟩) ?_ ?_
      rotate_left
      · intro w'
        go_simp
        with_reducible rfl
      rotate_left
      · simp only [Act.put, List.setIfInBounds_toArray, List.set_cons_zero, List.set_cons_succ, i64_w, i32_w]
        rfl
      refine pure_ (i := 17) (N := some 99) (v := ?_) (a' := ?_) #[true, true, true, true, true, true, true, true, true, true, true, true, true, true, true, true, true, true, false, false, false, false, false, false, false, false, false, false, false, false, false, false, false, false, false, false, false, false, false, false, false, false, false, false, false, false, false] rfl rfl (any_of HT_.out (by kernel_rfl)) (fun _ _ _ h => h) (Or.inl ⟨by rfl, ?_⟩) ?_ ?_
      rotate_left
      · intro w'
        go_simp
        with_reducible rfl
      rotate_left
      · simp only [Act.put, List.setIfInBounds_toArray, List.set_cons_zero, List.set_cons_succ, i64_w, i32_w]
        rfl
      refine pure_ (i := 18) (N := some 100) (v := ?_) (a' := ?_) #[true, true, true, true, true, true, true, true, true, true, true, true, true, true, true, true, true, true, true, false, false, false, false, false, false, false, false, false, false, false, false, false, false, false, false, false, false, false, false, false, false, false, false, false, false, false, false] rfl rfl (any_of HT_.out (by kernel_rfl)) (fun _ _ _ h => h) (Or.inl ⟨by rfl, ?_⟩) ?_ ?_
      rotate_left
      · intro w'
        go_simp
        with_reducible rfl
      rotate_left
      · simp only [Act.put, List.setIfInBounds_toArray, List.set_cons_zero, List.set_cons_succ, i64_w, i32_w]
        rfl
      refine pure_ (i := 19) (N := some 101) (v := ?_) (a' := ?_) #[true, true, true, true, true, true, true, true, true, true, true, true, true, true, true, true, true, true, true, true, false, false, false, false, false, false, false, false, false, false, false, false, false, false, false, false, false, false, false, false, false, false, false, false, false, false, false] rfl rfl (any_of HT_.out (by kernel_rfl)) (fun _ _ _ h => h) (Or.inl ⟨by rfl, ?_⟩) ?_ ?_
      rotate_left
      · intro w'
        go_simp
        with_reducible rfl
      rotate_left
      · simp only [Act.put, List.setIfInBounds_toArray, List.set_cons_zero, List.set_cons_succ, i64_w, i32_w]
        rfl
      refine pure_ (i := 20) (N := some 102) (v := ?_) (a' := ?_) #[true, true, true, true, true, true, true, true, true, true, true, true, true, true, true, true, true, true, true, true, true, false, false, false, false, false, false, false, false, false, false, false, false, false, false, false, false, false, false, false, false, false, false, false, false, false, false] rfl rfl (any_of HT_.out (by kernel_rfl)) (fun _ _ _ h => h) (Or.inl ⟨by rfl, ?_⟩) ?_ ?_
      rotate_left
      · intro w'
        go_simp
        with_reducible rfl
      rotate_left
      · simp only [Act.put, List.setIfInBounds_toArray, List.set_cons_zero, List.set_cons_succ, i64_w, i32_w]
        rfl
      refine pure_ (i := 21) (N := some 103) (v := ?_) (a' := ?_) #[true, true, true, true, true, true, true, true, true, true, true, true, true, true, true, true, true, true, true, true, true, true, false, false, false, false, false, false, false, false, false, false, false, false, false, false, false, false, false, false, false, false, false, false, false, false, false] rfl rfl (any_of HT_.out (by kernel_rfl)) (fun _ _ _ h => h) (Or.inl ⟨by rfl, ?_⟩) ?_ ?_
      rotate_left
      · intro w'
        go_simp
        with_reducible rfl
      rotate_left
      · simp only [Act.put, List.setIfInBounds_toArray, List.set_cons_zero, List.set_cons_succ, i64_w, i32_w]
        rfl
      refine pure_ (i := 22) (N := some 104) (v := ?_) (a' := ?_) #[true, true, true, true, true, true, true, true, true, true, true, true, true, true, true, true, true, true, true, true, true, true, true, false, false, false, false, false, false, false, false, false, false, false, false, false, false, false, false, false, false, false, false, false, false, false, false] rfl rfl (any_of HT_.out (by kernel_rfl)) (fun _ _ _ h => h) (Or.inl ⟨by rfl, ?_⟩) ?_ ?_
      rotate_left
      · intro w'
        go_simp
        with_reducible rfl
      rotate_left
      · simp only [Act.put, List.setIfInBounds_toArray, List.set_cons_zero, List.set_cons_succ, i64_w, i32_w]
        rfl
      refine pure_ (i := 23) (N := some 105) (v := ?_) (a' := ?_) #[true, true, true, true, true, true, true, true, true, true, true, true, true, true, true, true, true, true, true, true, true, true, true, true, false, false, false, false, false, false, false, false, false, false, false, false, false, false, false, false, false, false, false, false, false, false, false] rfl rfl (any_of HT_.out (by kernel_rfl)) (fun _ _ _ h => h) (Or.inl ⟨by rfl, ?_⟩) ?_ ?_
      rotate_left
      · intro w'
        go_simp
        with_reducible rfl
      rotate_left
      · simp only [Act.put, List.setIfInBounds_toArray, List.set_cons_zero, List.set_cons_succ, i64_w, i32_w]
        rfl
      refine pure_ (i := 24) (N := some 106) (v := ?_) (a' := ?_) #[true, true, true, true, true, true, true, true, true, true, true, true, true, true, true, true, true, true, true, true, true, true, true, true, true, false, false, false, false, false, false, false, false, false, false, false, false, false, false, false, false, false, false, false, false, false, false] rfl rfl (any_of HT_.out (by kernel_rfl)) (fun _ _ _ h => h) (Or.inl ⟨by rfl, ?_⟩) ?_ ?_
      rotate_left
      · intro w'
        go_simp
        with_reducible rfl
      rotate_left
      · simp only [Act.put, List.setIfInBounds_toArray, List.set_cons_zero, List.set_cons_succ, i64_w, i32_w]
        rfl
      refine pure_ (i := 27) (N := some 109) (v := ?_) (a' := ?_) #[true, true, true, true, true, true, true, true, true, true, true, true, true, true, true, true, true, true, true, true, true, true, true, true, true, false, false, true, false, false, false, false, false, false, false, false, false, false, false, false, false, false, false, false, false, false, false] rfl rfl (any_of HT_.out (by kernel_rfl)) (fun _ _ _ h => h) (Or.inl ⟨by rfl, ?_⟩) ?_ ?_
      rotate_left
      · intro w'
        go_simp
        with_reducible rfl
      rotate_left
      · simp only [Act.put, List.setIfInBounds_toArray, List.set_cons_zero, List.set_cons_succ, i64_w, i32_w]
        rfl
      refine take_ (i := 28) (N := some 110) (v := ?_) (a' := ?_) #[true, true, true, true, true, true, true, true, true, true, true, true, true, true, true, true, true, true, true, true, true, true, true, true, true, false, false, true, true, false, false, false, false, false, false, false, false, false, false, false, false, false, false, false, false, false, false] rfl rfl (take_ofW HT_.out HW_.out (by kernel_rfl)) (fun _ _ _ h => h) (Or.inl ⟨by rfl, ?_⟩) hHeld ?_ ?_
      rotate_left
      · rintro w' ⟨s0, s1, s2, s3, s4, s5, s6, s7, s8, s9, s10, s11, s12, s13, s14, s15, s16, s17, s18, s19, s20, s21, s22, s23, s24, s25, s26, s27, s28, s29, s30, s31, s32, s33, s34, s35, s36⟩
        go_simp
        with_reducible rfl
      rotate_left
      · simp only [Act.put, List.setIfInBounds_toArray, List.set_cons_zero, List.set_cons_succ, i64_w, i32_w]
        rfl
      refine one_ (i := 25) (N := some 107) #[true, true, true, true, true, true, true, true, true, true, true, true, true, true, true, true, true, true, true, true, true, true, true, true, true, true, false, true, true, false, false, false, false, false, false, false, false, false, false, false, false, false, false, false, false, false, false] rfl rfl (one_of HT_.out (by kernel_rfl)) (by decide) (fun K hK => ?_)
      refine goes_ Try.func15 (by kernel_rfl) rfl #[a.p] (by rfl) rfl rfl (by (try simp only [List.map_toArray, List.map_cons, List.map_nil]); first | done | rfl) ?_
      refine (ram_at (CA1.out.below HX.out) OK.out.r1).mono ?_
      rintro e' wz ⟨v0, rfl, hR, hb⟩
      obtain ⟨A7, c7, rfl, hH⟩ := held_of_R hR
      have HY := Aside0.mk (below_step HX.out hb)
      have ts := hH.text
      clear hb hR hH
      refine ⟨_, rfl, ?_⟩
      refine hK.out _ _ ⟨(blk_cell (blk_below B4.out HY.out) 0).trans rfl, (blk_cell (blk_below B4.out HY.out) 1).trans rfl, (blk_cell (blk_below B4.out HY.out) 2).trans rfl, (blk_cell (blk_below B4.out HY.out) 3).trans rfl, (blk_cell (blk_below B4.out HY.out) 4).trans rfl, (blk_cell (blk_below B4.out HY.out) 5).trans rfl, (blk_cell (blk_below B1.out HY.out) 0).trans rfl, (blk_cell (blk_below B1.out HY.out) 1).trans rfl, (blk_cell (blk_below B1.out HY.out) 2).trans rfl, (blk_cell (blk_below B1.out HY.out) 3).trans rfl, (blk_cell (blk_below B1.out HY.out) 4).trans rfl, (blk_cell (blk_below B1.out HY.out) 5).trans rfl, (blk_cell (blk_below B5.out HY.out) 0).trans rfl, (blk_cell (blk_below B5.out HY.out) 1).trans rfl, (blk_cell (blk_below B5.out HY.out) 2).trans rfl, (blk_cell (blk_below B5.out HY.out) 3).trans rfl, (blk_cell (blk_below B5.out HY.out) 4).trans rfl, (blk_cell (blk_below B5.out HY.out) 5).trans rfl, (blk_cell (blk_below B2.out HY.out) 0).trans rfl, (blk_cell (blk_below B2.out HY.out) 1).trans rfl, (blk_cell (blk_below B2.out HY.out) 2).trans rfl, (blk_cell (blk_below B2.out HY.out) 3).trans rfl, (blk_cell (blk_below B2.out HY.out) 4).trans rfl, (blk_cell (blk_below B2.out HY.out) 5).trans rfl, (blk_cell (blk_below B6.out HY.out) 0).trans rfl, (blk_cell (blk_below B6.out HY.out) 1).trans rfl, (blk_cell (blk_below B6.out HY.out) 2).trans rfl, (blk_cell (blk_below B6.out HY.out) 3).trans rfl, (blk_cell (blk_below B6.out HY.out) 4).trans rfl, (blk_cell (blk_below B6.out HY.out) 5).trans rfl, (blk_cell (blk_below B3.out HY.out) 0).trans rfl, (blk_cell (blk_below B3.out HY.out) 1).trans rfl, (blk_cell (blk_below B3.out HY.out) 2).trans rfl, (blk_cell (blk_below B3.out HY.out) 3).trans rfl, (blk_cell (blk_below B3.out HY.out) 4).trans rfl, (blk_cell (blk_below B3.out HY.out) 5).trans rfl, (HH.out.below HY.out).text⟩ (fun hHeld => ?_)
      clear hK K
      refine norm_ (a' := ?_) ?_ ?_
      rotate_left
      · show Act.put _ (some 107) _ = _
        simp only [Act.put, List.setIfInBounds_toArray, List.set_cons_zero, List.set_cons_succ, i64_w, i32_w]
        rfl
      refine one_ (i := 26) (N := some 108) #[true, true, true, true, true, true, true, true, true, true, true, true, true, true, true, true, true, true, true, true, true, true, true, true, true, true, true, true, true, false, false, false, false, false, false, false, false, false, false, false, false, false, false, false, false, false, false] rfl rfl (one_of HT_.out (by kernel_rfl)) (by decide) (fun K hK => ?_)
      refine event_step (v := .string (strOfNums s2.ram)) (by rfl) (by go_simp; rfl) ?_
      refine hK.out _ _ ⟨(blk_cell (blk_below B4.out HY.out) 0).trans rfl, (blk_cell (blk_below B4.out HY.out) 1).trans rfl, (blk_cell (blk_below B4.out HY.out) 2).trans rfl, (blk_cell (blk_below B4.out HY.out) 3).trans rfl, (blk_cell (blk_below B4.out HY.out) 4).trans rfl, (blk_cell (blk_below B4.out HY.out) 5).trans rfl, (blk_cell (blk_below B1.out HY.out) 0).trans rfl, (blk_cell (blk_below B1.out HY.out) 1).trans rfl, (blk_cell (blk_below B1.out HY.out) 2).trans rfl, (blk_cell (blk_below B1.out HY.out) 3).trans rfl, (blk_cell (blk_below B1.out HY.out) 4).trans rfl, (blk_cell (blk_below B1.out HY.out) 5).trans rfl, (blk_cell (blk_below B5.out HY.out) 0).trans rfl, (blk_cell (blk_below B5.out HY.out) 1).trans rfl, (blk_cell (blk_below B5.out HY.out) 2).trans rfl, (blk_cell (blk_below B5.out HY.out) 3).trans rfl, (blk_cell (blk_below B5.out HY.out) 4).trans rfl, (blk_cell (blk_below B5.out HY.out) 5).trans rfl, (blk_cell (blk_below B2.out HY.out) 0).trans rfl, (blk_cell (blk_below B2.out HY.out) 1).trans rfl, (blk_cell (blk_below B2.out HY.out) 2).trans rfl, (blk_cell (blk_below B2.out HY.out) 3).trans rfl, (blk_cell (blk_below B2.out HY.out) 4).trans rfl, (blk_cell (blk_below B2.out HY.out) 5).trans rfl, (blk_cell (blk_below B6.out HY.out) 0).trans rfl, (blk_cell (blk_below B6.out HY.out) 1).trans rfl, (blk_cell (blk_below B6.out HY.out) 2).trans rfl, (blk_cell (blk_below B6.out HY.out) 3).trans rfl, (blk_cell (blk_below B6.out HY.out) 4).trans rfl, (blk_cell (blk_below B6.out HY.out) 5).trans rfl, (blk_cell (blk_below B3.out HY.out) 0).trans rfl, (blk_cell (blk_below B3.out HY.out) 1).trans rfl, (blk_cell (blk_below B3.out HY.out) 2).trans rfl, (blk_cell (blk_below B3.out HY.out) 3).trans rfl, (blk_cell (blk_below B3.out HY.out) 4).trans rfl, (blk_cell (blk_below B3.out HY.out) 5).trans rfl, (HH.out.below HY.out).text⟩ (fun hHeld => ?_)
      clear hK K
      refine norm_ (a' := ?_) ?_ ?_
      rotate_left
      · show Act.put _ (some 108) _ = _
        simp only [Act.put, List.setIfInBounds_toArray, List.set_cons_zero, List.set_cons_succ, i64_w, i32_w]
        rfl
      refine pure_ (i := 29) (N := some 111) (v := ?_) (a' := ?_) #[true, true, true, true, true, true, true, true, true, true, true, true, true, true, true, true, true, true, true, true, true, true, true, true, true, true, true, true, true, true, false, false, false, false, false, false, false, false, false, false, false, false, false, false, false, false, false] rfl rfl (any_of HT_.out (by kernel_rfl)) (fun _ _ _ h => h) (Or.inl ⟨by rfl, ?_⟩) ?_ ?_
      rotate_left
      · intro w'
        go_simp
        with_reducible rfl
      rotate_left
      · simp only [Act.put, List.setIfInBounds_toArray, List.set_cons_zero, List.set_cons_succ, i64_w, i32_w]
        rfl
      refine pure_ (i := 30) (N := some 112) (v := ?_) (a' := ?_) #[true, true, true, true, true, true, true, true, true, true, true, true, true, true, true, true, true, true, true, true, true, true, true, true, true, true, true, true, true, true, true, false, false, false, false, false, false, false, false, false, false, false, false, false, false, false, false] rfl rfl (any_of HT_.out (by kernel_rfl)) (fun _ _ _ h => h) (Or.inl ⟨by rfl, ?_⟩) ?_ ?_
      rotate_left
      · intro w'
        go_simp
        with_reducible rfl
      rotate_left
      · simp only [Act.put, List.setIfInBounds_toArray, List.set_cons_zero, List.set_cons_succ, i64_w, i32_w]
        rfl
      refine pure_ (i := 31) (N := some 113) (v := ?_) (a' := ?_) #[true, true, true, true, true, true, true, true, true, true, true, true, true, true, true, true, true, true, true, true, true, true, true, true, true, true, true, true, true, true, true, true, false, false, false, false, false, false, false, false, false, false, false, false, false, false, false] rfl rfl (any_of HT_.out (by kernel_rfl)) (fun _ _ _ h => h) (Or.inl ⟨by rfl, ?_⟩) ?_ ?_
      rotate_left
      · intro w'
        go_simp
        with_reducible rfl
      rotate_left
      · simp only [Act.put, List.setIfInBounds_toArray, List.set_cons_zero, List.set_cons_succ, i64_w, i32_w]
        rfl
      refine take_ (i := 32) (N := some 114) (v := ?_) (a' := ?_) #[true, true, true, true, true, true, true, true, true, true, true, true, true, true, true, true, true, true, true, true, true, true, true, true, true, true, true, true, true, true, true, true, true, false, false, false, false, false, false, false, false, false, false, false, false, false, false] rfl rfl (take_ofW HT_.out HW_.out (by kernel_rfl)) (fun _ _ _ h => h) (Or.inl ⟨by rfl, ?_⟩) hHeld ?_ ?_
      rotate_left
      · rintro w' ⟨s0, s1, s2, s3, s4, s5, s6, s7, s8, s9, s10, s11, s12, s13, s14, s15, s16, s17, s18, s19, s20, s21, s22, s23, s24, s25, s26, s27, s28, s29, s30, s31, s32, s33, s34, s35, s36⟩
        go_simp
        with_reducible rfl
      rotate_left
      · simp only [Act.put, List.setIfInBounds_toArray, List.set_cons_zero, List.set_cons_succ, i64_w, i32_w]
        rfl
      refine take_ (i := 33) (N := some 115) (v := ?_) (a' := ?_) #[true, true, true, true, true, true, true, true, true, true, true, true, true, true, true, true, true, true, true, true, true, true, true, true, true, true, true, true, true, true, true, true, true, true, false, false, false, false, false, false, false, false, false, false, false, false, false] rfl rfl (take_ofW HT_.out HW_.out (by kernel_rfl)) (fun _ _ _ h => h) (Or.inl ⟨by rfl, ?_⟩) hHeld ?_ ?_
      rotate_left
      · rintro w' ⟨s0, s1, s2, s3, s4, s5, s6, s7, s8, s9, s10, s11, s12, s13, s14, s15, s16, s17, s18, s19, s20, s21, s22, s23, s24, s25, s26, s27, s28, s29, s30, s31, s32, s33, s34, s35, s36⟩
        go_simp
        with_reducible rfl
      rotate_left
      · simp only [Act.put, List.setIfInBounds_toArray, List.set_cons_zero, List.set_cons_succ, i64_w, i32_w]
        rfl
      refine pure_ (i := 34) (N := some 116) (v := ?_) (a' := ?_) #[true, true, true, true, true, true, true, true, true, true, true, true, true, true, true, true, true, true, true, true, true, true, true, true, true, true, true, true, true, true, true, true, true, true, true, false, false, false, false, false, false, false, false, false, false, false, false] rfl rfl (any_of HT_.out (by kernel_rfl)) (fun _ _ _ h => h) (Or.inl ⟨by rfl, ?_⟩) ?_ ?_
      rotate_left
      · intro w'
        go_simp
        with_reducible rfl
      rotate_left
      · simp only [Act.put, List.setIfInBounds_toArray, List.set_cons_zero, List.set_cons_succ, i64_w, i32_w]
        rfl
      refine pure_ (i := 35) (N := some 117) (v := ?_) (a' := ?_) #[true, true, true, true, true, true, true, true, true, true, true, true, true, true, true, true, true, true, true, true, true, true, true, true, true, true, true, true, true, true, true, true, true, true, true, true, false, false, false, false, false, false, false, false, false, false, false] rfl rfl (any_of HT_.out (by kernel_rfl)) (fun _ _ _ h => h) (Or.inl ⟨by rfl, ?_⟩) ?_ ?_
      rotate_left
      · intro w'
        go_simp
        with_reducible rfl
      rotate_left
      · simp only [Act.put, List.setIfInBounds_toArray, List.set_cons_zero, List.set_cons_succ, i64_w, i32_w]
        rfl
      refine pure_ (i := 36) (N := some 118) (v := ?_) (a' := ?_) #[true, true, true, true, true, true, true, true, true, true, true, true, true, true, true, true, true, true, true, true, true, true, true, true, true, true, true, true, true, true, true, true, true, true, true, true, true, false, false, false, false, false, false, false, false, false, false] rfl rfl (any_of HT_.out (by kernel_rfl)) (fun _ _ _ h => h) (Or.inl ⟨by rfl, ?_⟩) ?_ ?_
      rotate_left
      · intro w'
        go_simp
        with_reducible rfl
      rotate_left
      · simp only [Act.put, List.setIfInBounds_toArray, List.set_cons_zero, List.set_cons_succ, i64_w, i32_w]
        rfl
      refine take_ (i := 37) (N := some 119) (v := ?_) (a' := ?_) #[true, true, true, true, true, true, true, true, true, true, true, true, true, true, true, true, true, true, true, true, true, true, true, true, true, true, true, true, true, true, true, true, true, true, true, true, true, true, false, false, false, false, false, false, false, false, false] rfl rfl (take_ofW HT_.out HW_.out (by kernel_rfl)) (fun _ _ _ h => h) (Or.inl ⟨by rfl, ?_⟩) hHeld ?_ ?_
      rotate_left
      · rintro w' ⟨s0, s1, s2, s3, s4, s5, s6, s7, s8, s9, s10, s11, s12, s13, s14, s15, s16, s17, s18, s19, s20, s21, s22, s23, s24, s25, s26, s27, s28, s29, s30, s31, s32, s33, s34, s35, s36⟩
        go_simp
        with_reducible rfl
      rotate_left
      · simp only [Act.put, List.setIfInBounds_toArray, List.set_cons_zero, List.set_cons_succ, i64_w, i32_w]
        rfl
      refine take_ (i := 38) (N := some 120) (v := ?_) (a' := ?_) #[true, true, true, true, true, true, true, true, true, true, true, true, true, true, true, true, true, true, true, true, true, true, true, true, true, true, true, true, true, true, true, true, true, true, true, true, true, true, true, false, false, false, false, false, false, false, false] rfl rfl (take_ofW HT_.out HW_.out (by kernel_rfl)) (fun _ _ _ h => h) (Or.inl ⟨by rfl, ?_⟩) hHeld ?_ ?_
      rotate_left
      · rintro w' ⟨s0, s1, s2, s3, s4, s5, s6, s7, s8, s9, s10, s11, s12, s13, s14, s15, s16, s17, s18, s19, s20, s21, s22, s23, s24, s25, s26, s27, s28, s29, s30, s31, s32, s33, s34, s35, s36⟩
        go_simp
        with_reducible rfl
      rotate_left
      · simp only [Act.put, List.setIfInBounds_toArray, List.set_cons_zero, List.set_cons_succ, i64_w, i32_w]
        rfl
      refine pure_ (i := 39) (N := some 121) (v := ?_) (a' := ?_) #[true, true, true, true, true, true, true, true, true, true, true, true, true, true, true, true, true, true, true, true, true, true, true, true, true, true, true, true, true, true, true, true, true, true, true, true, true, true, true, true, false, false, false, false, false, false, false] rfl rfl (any_of HT_.out (by kernel_rfl)) (fun _ _ _ h => h) (Or.inl ⟨by rfl, ?_⟩) ?_ ?_
      rotate_left
      · intro w'
        go_simp
        with_reducible rfl
      rotate_left
      · simp only [Act.put, List.setIfInBounds_toArray, List.set_cons_zero, List.set_cons_succ, i64_w, i32_w]
        rfl
      refine pure_ (i := 40) (N := some 122) (v := ?_) (a' := ?_) #[true, true, true, true, true, true, true, true, true, true, true, true, true, true, true, true, true, true, true, true, true, true, true, true, true, true, true, true, true, true, true, true, true, true, true, true, true, true, true, true, true, false, false, false, false, false, false] rfl rfl (any_of HT_.out (by kernel_rfl)) (fun _ _ _ h => h) (Or.inl ⟨by rfl, ?_⟩) ?_ ?_
      rotate_left
      · intro w'
        go_simp
        with_reducible rfl
      rotate_left
      · simp only [Act.put, List.setIfInBounds_toArray, List.set_cons_zero, List.set_cons_succ, i64_w, i32_w]
        rfl
      refine pure_ (i := 41) (N := some 123) (v := ?_) (a' := ?_) #[true, true, true, true, true, true, true, true, true, true, true, true, true, true, true, true, true, true, true, true, true, true, true, true, true, true, true, true, true, true, true, true, true, true, true, true, true, true, true, true, true, true, false, false, false, false, false] rfl rfl (any_of HT_.out (by kernel_rfl)) (fun _ _ _ h => h) (Or.inl ⟨by rfl, ?_⟩) ?_ ?_
      rotate_left
      · intro w'
        go_simp
        with_reducible rfl
      rotate_left
      · simp only [Act.put, List.setIfInBounds_toArray, List.set_cons_zero, List.set_cons_succ, i64_w, i32_w]
        rfl
      refine take_ (i := 42) (N := some 124) (v := ?_) (a' := ?_) #[true, true, true, true, true, true, true, true, true, true, true, true, true, true, true, true, true, true, true, true, true, true, true, true, true, true, true, true, true, true, true, true, true, true, true, true, true, true, true, true, true, true, true, false, false, false, false] rfl rfl (take_ofW HT_.out HW_.out (by kernel_rfl)) (fun _ _ _ h => h) (Or.inl ⟨by rfl, ?_⟩) hHeld ?_ ?_
      rotate_left
      · rintro w' ⟨s0, s1, s2, s3, s4, s5, s6, s7, s8, s9, s10, s11, s12, s13, s14, s15, s16, s17, s18, s19, s20, s21, s22, s23, s24, s25, s26, s27, s28, s29, s30, s31, s32, s33, s34, s35, s36⟩
        go_simp
        with_reducible rfl
      rotate_left
      · simp only [Act.put, List.setIfInBounds_toArray, List.set_cons_zero, List.set_cons_succ, i64_w, i32_w]
        rfl
      refine take_ (i := 43) (N := some 125) (v := ?_) (a' := ?_) #[true, true, true, true, true, true, true, true, true, true, true, true, true, true, true, true, true, true, true, true, true, true, true, true, true, true, true, true, true, true, true, true, true, true, true, true, true, true, true, true, true, true, true, true, false, false, false] rfl rfl (take_ofW HT_.out HW_.out (by kernel_rfl)) (fun _ _ _ h => h) (Or.inl ⟨by rfl, ?_⟩) hHeld ?_ ?_
      rotate_left
      · rintro w' ⟨s0, s1, s2, s3, s4, s5, s6, s7, s8, s9, s10, s11, s12, s13, s14, s15, s16, s17, s18, s19, s20, s21, s22, s23, s24, s25, s26, s27, s28, s29, s30, s31, s32, s33, s34, s35, s36⟩
        go_simp
        with_reducible rfl
      rotate_left
      · simp only [Act.put, List.setIfInBounds_toArray, List.set_cons_zero, List.set_cons_succ, i64_w, i32_w]
        rfl
      refine pure_ (i := 44) (N := some 126) (v := ?_) (a' := ?_) #[true, true, true, true, true, true, true, true, true, true, true, true, true, true, true, true, true, true, true, true, true, true, true, true, true, true, true, true, true, true, true, true, true, true, true, true, true, true, true, true, true, true, true, true, true, false, false] rfl rfl (any_of HT_.out (by kernel_rfl)) (fun _ _ _ h => h) (Or.inl ⟨by rfl, ?_⟩) ?_ ?_
      rotate_left
      · intro w'
        go_simp
        with_reducible rfl
      rotate_left
      · simp only [Act.put, List.setIfInBounds_toArray, List.set_cons_zero, List.set_cons_succ, i64_w, i32_w]
        rfl
      refine pure_ (i := 45) (N := some 127) (v := ?_) (a' := ?_) #[true, true, true, true, true, true, true, true, true, true, true, true, true, true, true, true, true, true, true, true, true, true, true, true, true, true, true, true, true, true, true, true, true, true, true, true, true, true, true, true, true, true, true, true, true, true, false] rfl rfl (any_of HT_.out (by kernel_rfl)) (fun _ _ _ h => h) (Or.inl ⟨by rfl, ?_⟩) ?_ ?_
      rotate_left
      · intro w'
        go_simp
        with_reducible rfl
      rotate_left
      · simp only [Act.put, List.setIfInBounds_toArray, List.set_cons_zero, List.set_cons_succ, i64_w, i32_w]
        rfl
      refine pure_ (i := 46) (N := some 6) (v := ?_) (a' := ?_) #[true, true, true, true, true, true, true, true, true, true, true, true, true, true, true, true, true, true, true, true, true, true, true, true, true, true, true, true, true, true, true, true, true, true, true, true, true, true, true, true, true, true, true, true, true, true, true] rfl rfl (any_of HT_.out (by kernel_rfl)) (fun _ _ _ h => h) (Or.inl ⟨by rfl, ?_⟩) ?_ ?_
      rotate_left
      · intro w'
        go_simp
        with_reducible rfl
      rotate_left
      · simp only [Act.put, List.setIfInBounds_toArray, List.set_cons_zero, List.set_cons_succ, i64_w, i32_w]
        rfl
      refine done_ (done_of HT_.out (by kernel_rfl)) ?_
      go_wp2
      go_returns
      exact ⟨rfl, below_step HB4.out HY.out⟩
    case neg =>
    have HD := Aside0.mk (below_drew1 (Below.refl w10.heap.size w10))
    have h5' := h5.resolve_left e7
    have b5 : (e == 5) = false := beq_eq_false_iff_ne.mpr e5
    have b7 : (e == 7) = false := beq_eq_false_iff_ne.mpr e7
    rw [b7] at h7
    rw [b5] at h5'
    have hbt : s2.hdr.bt = true := by simpa using h7
    have hq : l2.length = s2.saveL.length := by simpa using h5'
    have hln : ((l2.length : Int) != (s2.saveL.length : Int)) = false := by rw [hq]; simp
    clear hq
    clear h5'
    have HBT := Aside0.mk hbt
    clear hbt h7 h5 e7 e5
    have hfl := field_bt
    go_wp2_with fail
    refine start_ (n := 47) (S := fun w' => w'.cell? ⟨w9.heap.size, 0, none⟩ = some (.int .i64 s2.mp.k) ∧ w'.cell? ⟨w9.heap.size, 1, none⟩ = some (.bool s2.mp.o) ∧ w'.cell? ⟨w9.heap.size, 2, none⟩ = some (.int .u8 s2.mp.l) ∧ w'.cell? ⟨w9.heap.size, 3, none⟩ = some (.int .u8 s2.mp.h) ∧ w'.cell? ⟨w9.heap.size, 4, none⟩ = some (.int .u8 s2.mp.r) ∧ w'.cell? ⟨w9.heap.size, 5, none⟩ = some (.bool s2.mp.md) ∧ w'.cell? ⟨w5.heap.size, 0, none⟩ = some (.int .i64 s2.mp.k) ∧ w'.cell? ⟨w5.heap.size, 1, none⟩ = some (.bool s2.mp.o) ∧ w'.cell? ⟨w5.heap.size, 2, none⟩ = some (.int .u8 s2.mp.l) ∧ w'.cell? ⟨w5.heap.size, 3, none⟩ = some (.int .u8 s2.mp.h) ∧ w'.cell? ⟨w5.heap.size, 4, none⟩ = some (.int .u8 s2.mp.r) ∧ w'.cell? ⟨w5.heap.size, 5, none⟩ = some (.bool s2.mp.md) ∧ w'.cell? ⟨w9.heap.size + 1, 0, none⟩ = some (.int .u8 s2.lv.s) ∧ w'.cell? ⟨w9.heap.size + 1, 1, none⟩ = some (.int .u8 s2.lv.m) ∧ w'.cell? ⟨w9.heap.size + 1, 2, none⟩ = some (.int .u8 s2.lv.h) ∧ w'.cell? ⟨w9.heap.size + 1, 3, none⟩ = some (.int .u16 s2.lv.d) ∧ w'.cell? ⟨w9.heap.size + 1, 4, none⟩ = some (.bool s2.lv.ht) ∧ w'.cell? ⟨w9.heap.size + 1, 5, none⟩ = some (.bool s2.lv.cy) ∧ w'.cell? ⟨w5.heap.size + 1, 0, none⟩ = some (.int .u8 s2.lv.s) ∧ w'.cell? ⟨w5.heap.size + 1, 1, none⟩ = some (.int .u8 s2.lv.m) ∧ w'.cell? ⟨w5.heap.size + 1, 2, none⟩ = some (.int .u8 s2.lv.h) ∧ w'.cell? ⟨w5.heap.size + 1, 3, none⟩ = some (.int .u16 s2.lv.d) ∧ w'.cell? ⟨w5.heap.size + 1, 4, none⟩ = some (.bool s2.lv.ht) ∧ w'.cell? ⟨w5.heap.size + 1, 5, none⟩ = some (.bool s2.lv.cy) ∧ w'.cell? ⟨w9.heap.size + 2, 0, none⟩ = some (.int .u8 s2.hd.s) ∧ w'.cell? ⟨w9.heap.size + 2, 1, none⟩ = some (.int .u8 s2.hd.m) ∧ w'.cell? ⟨w9.heap.size + 2, 2, none⟩ = some (.int .u8 s2.hd.h) ∧ w'.cell? ⟨w9.heap.size + 2, 3, none⟩ = some (.int .u16 s2.hd.d) ∧ w'.cell? ⟨w9.heap.size + 2, 4, none⟩ = some (.bool s2.hd.ht) ∧ w'.cell? ⟨w9.heap.size + 2, 5, none⟩ = some (.bool s2.hd.cy) ∧ w'.cell? ⟨w5.heap.size + 2, 0, none⟩ = some (.int .u8 s2.hd.s) ∧ w'.cell? ⟨w5.heap.size + 2, 1, none⟩ = some (.int .u8 s2.hd.m) ∧ w'.cell? ⟨w5.heap.size + 2, 2, none⟩ = some (.int .u8 s2.hd.h) ∧ w'.cell? ⟨w5.heap.size + 2, 3, none⟩ = some (.int .u16 s2.hd.d) ∧ w'.cell? ⟨w5.heap.size + 2, 4, none⟩ = some (.bool s2.hd.ht) ∧ w'.cell? ⟨w5.heap.size + 2, 5, none⟩ = some (.bool s2.hd.cy) ∧ (convert 22 9 (.slice A5 s2.ram.length c5)).run Try.prog w' = .ok (.string (strOfNums s2.ram)) w') (ds := []) #[false, false, false, false, false, false, false, false, false, false, false, false, false, false, false, false, false, false, false, false, false, false, false, false, false, false, false, false, false, false, false, false, false, false, false, false, false, false, false, false, false, false, false, false, false, false, false] (by kernel_rfl) rfl rfl ⟨(blk_cell (blk_below B4.out HD.out) 0).trans rfl, (blk_cell (blk_below B4.out HD.out) 1).trans rfl, (blk_cell (blk_below B4.out HD.out) 2).trans rfl, (blk_cell (blk_below B4.out HD.out) 3).trans rfl, (blk_cell (blk_below B4.out HD.out) 4).trans rfl, (blk_cell (blk_below B4.out HD.out) 5).trans rfl, (blk_cell (blk_below B1.out HD.out) 0).trans rfl, (blk_cell (blk_below B1.out HD.out) 1).trans rfl, (blk_cell (blk_below B1.out HD.out) 2).trans rfl, (blk_cell (blk_below B1.out HD.out) 3).trans rfl, (blk_cell (blk_below B1.out HD.out) 4).trans rfl, (blk_cell (blk_below B1.out HD.out) 5).trans rfl, (blk_cell (blk_below B5.out HD.out) 0).trans rfl, (blk_cell (blk_below B5.out HD.out) 1).trans rfl, (blk_cell (blk_below B5.out HD.out) 2).trans rfl, (blk_cell (blk_below B5.out HD.out) 3).trans rfl, (blk_cell (blk_below B5.out HD.out) 4).trans rfl, (blk_cell (blk_below B5.out HD.out) 5).trans rfl, (blk_cell (blk_below B2.out HD.out) 0).trans rfl, (blk_cell (blk_below B2.out HD.out) 1).trans rfl, (blk_cell (blk_below B2.out HD.out) 2).trans rfl, (blk_cell (blk_below B2.out HD.out) 3).trans rfl, (blk_cell (blk_below B2.out HD.out) 4).trans rfl, (blk_cell (blk_below B2.out HD.out) 5).trans rfl, (blk_cell (blk_below B6.out HD.out) 0).trans rfl, (blk_cell (blk_below B6.out HD.out) 1).trans rfl, (blk_cell (blk_below B6.out HD.out) 2).trans rfl, (blk_cell (blk_below B6.out HD.out) 3).trans rfl, (blk_cell (blk_below B6.out HD.out) 4).trans rfl, (blk_cell (blk_below B6.out HD.out) 5).trans rfl, (blk_cell (blk_below B3.out HD.out) 0).trans rfl, (blk_cell (blk_below B3.out HD.out) 1).trans rfl, (blk_cell (blk_below B3.out HD.out) 2).trans rfl, (blk_cell (blk_below B3.out HD.out) 3).trans rfl, (blk_cell (blk_below B3.out HD.out) 4).trans rfl, (blk_cell (blk_below B3.out HD.out) 5).trans rfl, (HH.out.below HD.out).text⟩ (fun hHeld => ?_)
    refine with_tabW loads13.tab loads13.bits (fun HT_ HW_ => ?_)
    refine pure_ (i := 0) (N := some 82) (v := ?_) (a' := ?_) #[true, false, false, false, false, false, false, false, false, false, false, false, false, false, false, false, false, false, false, false, false, false, false, false, false, false, false, false, false, false, false, false, false, false, false, false, false, false, false, false, false, false, false, false, false, false, false] rfl rfl (any_of HT_.out (by kernel_rfl)) (fun _ _ _ h => h) (Or.inl ⟨by rfl, ?_⟩) ?_ ?_
    rotate_left
    · intro w'
      go_simp
      with_reducible rfl
    rotate_left
    · simp only [Act.put, List.setIfInBounds_toArray, List.set_cons_zero, List.set_cons_succ, i64_w, i32_w]
      rfl
    refine pure_ (i := 1) (N := some 83) (v := ?_) (a' := ?_) #[true, true, false, false, false, false, false, false, false, false, false, false, false, false, false, false, false, false, false, false, false, false, false, false, false, false, false, false, false, false, false, false, false, false, false, false, false, false, false, false, false, false, false, false, false, false, false] rfl rfl (any_of HT_.out (by kernel_rfl)) (fun _ _ _ h => h) (Or.inl ⟨by rfl, ?_⟩) ?_ ?_
    rotate_left
    · intro w'
      go_simp
      with_reducible rfl
    rotate_left
    · simp only [Act.put, List.setIfInBounds_toArray, List.set_cons_zero, List.set_cons_succ, i64_w, i32_w]
      rfl
    refine pure_ (i := 2) (N := some 84) (v := ?_) (a' := ?_) #[true, true, true, false, false, false, false, false, false, false, false, false, false, false, false, false, false, false, false, false, false, false, false, false, false, false, false, false, false, false, false, false, false, false, false, false, false, false, false, false, false, false, false, false, false, false, false] rfl rfl (any_of HT_.out (by kernel_rfl)) (fun _ _ _ h => h) (Or.inl ⟨by rfl, ?_⟩) ?_ ?_
    rotate_left
    · intro w'
      go_simp
      with_reducible rfl
    rotate_left
    · simp only [Act.put, List.setIfInBounds_toArray, List.set_cons_zero, List.set_cons_succ, i64_w, i32_w]
      rfl
    refine pure_ (i := 3) (N := some 85) (v := ?_) (a' := ?_) #[true, true, true, true, false, false, false, false, false, false, false, false, false, false, false, false, false, false, false, false, false, false, false, false, false, false, false, false, false, false, false, false, false, false, false, false, false, false, false, false, false, false, false, false, false, false, false] rfl rfl (any_of HT_.out (by kernel_rfl)) (fun _ _ _ h => h) (Or.inl ⟨by rfl, ?_⟩) ?_ ?_
    rotate_left
    · intro w'
      go_simp
      with_reducible rfl
    rotate_left
    · simp only [Act.put, List.setIfInBounds_toArray, List.set_cons_zero, List.set_cons_succ, i64_w, i32_w]
      rfl
    refine pure_ (i := 4) (N := some 86) (v := ?_) (a' := ?_) #[true, true, true, true, true, false, false, false, false, false, false, false, false, false, false, false, false, false, false, false, false, false, false, false, false, false, false, false, false, false, false, false, false, false, false, false, false, false, false, false, false, false, false, false, false, false, false] rfl rfl (any_of HT_.out (by kernel_rfl)) (fun _ _ _ h => h) (Or.inl ⟨by rfl, ?_⟩) ?_ ?_
    rotate_left
    · intro w'
      go_simp
      with_reducible rfl
    rotate_left
    · simp only [Act.put, List.setIfInBounds_toArray, List.set_cons_zero, List.set_cons_succ, i64_w, i32_w]
      rfl
    refine one_ (i := 5) (N := some 87) #[true, true, true, true, true, true, false, false, false, false, false, false, false, false, false, false, false, false, false, false, false, false, false, false, false, false, false, false, false, false, false, false, false, false, false, false, false, false, false, false, false, false, false, false, false, false, false] rfl rfl (one_of HT_.out (by kernel_rfl)) (by decide) (fun K hK => ?_)
    refine goes_ Try.func12 (by kernel_rfl) rfl #[a.p] (by rfl) rfl rfl (by (try simp only [List.map_toArray, List.map_cons, List.map_nil]); first | done | rfl) ?_
    refine (head_bt (CA1.out.below HD.out) true HBT.out).mono ?_
    rintro e' wy ⟨rfl, hb⟩
    have HX := Aside0.mk (below_step HD.out hb)
    clear hb
    refine ⟨_, rfl, ?_⟩
    refine hK.out _ _ ⟨(blk_cell (blk_below B4.out HX.out) 0).trans rfl, (blk_cell (blk_below B4.out HX.out) 1).trans rfl, (blk_cell (blk_below B4.out HX.out) 2).trans rfl, (blk_cell (blk_below B4.out HX.out) 3).trans rfl, (blk_cell (blk_below B4.out HX.out) 4).trans rfl, (blk_cell (blk_below B4.out HX.out) 5).trans rfl, (blk_cell (blk_below B1.out HX.out) 0).trans rfl, (blk_cell (blk_below B1.out HX.out) 1).trans rfl, (blk_cell (blk_below B1.out HX.out) 2).trans rfl, (blk_cell (blk_below B1.out HX.out) 3).trans rfl, (blk_cell (blk_below B1.out HX.out) 4).trans rfl, (blk_cell (blk_below B1.out HX.out) 5).trans rfl, (blk_cell (blk_below B5.out HX.out) 0).trans rfl, (blk_cell (blk_below B5.out HX.out) 1).trans rfl, (blk_cell (blk_below B5.out HX.out) 2).trans rfl, (blk_cell (blk_below B5.out HX.out) 3).trans rfl, (blk_cell (blk_below B5.out HX.out) 4).trans rfl, (blk_cell (blk_below B5.out HX.out) 5).trans rfl, (blk_cell (blk_below B2.out HX.out) 0).trans rfl, (blk_cell (blk_below B2.out HX.out) 1).trans rfl, (blk_cell (blk_below B2.out HX.out) 2).trans rfl, (blk_cell (blk_below B2.out HX.out) 3).trans rfl, (blk_cell (blk_below B2.out HX.out) 4).trans rfl, (blk_cell (blk_below B2.out HX.out) 5).trans rfl, (blk_cell (blk_below B6.out HX.out) 0).trans rfl, (blk_cell (blk_below B6.out HX.out) 1).trans rfl, (blk_cell (blk_below B6.out HX.out) 2).trans rfl, (blk_cell (blk_below B6.out HX.out) 3).trans rfl, (blk_cell (blk_below B6.out HX.out) 4).trans rfl, (blk_cell (blk_below B6.out HX.out) 5).trans rfl, (blk_cell (blk_below B3.out HX.out) 0).trans rfl, (blk_cell (blk_below B3.out HX.out) 1).trans rfl, (blk_cell (blk_below B3.out HX.out) 2).trans rfl, (blk_cell (blk_below B3.out HX.out) 3).trans rfl, (blk_cell (blk_below B3.out HX.out) 4).trans rfl, (blk_cell (blk_below B3.out HX.out) 5).trans rfl, (HH.out.below HX.out).text⟩ (fun hHeld => ?_)
    clear hK K
    refine norm_ (a' := ?_) ?_ ?_
    rotate_left
    · show Act.put _ (some 87) _ = _
      simp only [Act.put, List.setIfInBounds_toArray, List.set_cons_zero, List.set_cons_succ, i64_w, i32_w]
      rfl
    refine pure_ (i := 6) (N := some 88) (v := ?_) (a' := ?_) #[true, true, true, true, true, true, true, false, false, false, false, false, false, false, false, false, false, false, false, false, false, false, false, false, false, false, false, false, false, false, false, false, false, false, false, false, false, false, false, false, false, false, false, false, false, false, false] rfl rfl (any_of HT_.out (by kernel_rfl)) (fun _ _ _ h => h) (Or.inl ⟨by rfl, ?_⟩) ?_ ?_
    rotate_left
    · intro w'
      go_simp
      with_reducible rfl
    rotate_left
    · simp only [Act.put, List.setIfInBounds_toArray, List.set_cons_zero, List.set_cons_succ, i64_w, i32_w]
      rfl
    refine pure_ (i := 7) (N := some 89) (v := ?_) (a' := ?_) #[true, true, true, true, true, true, true, true, false, false, false, false, false, false, false, false, false, false, false, false, false, false, false, false, false, false, false, false, false, false, false, false, false, false, false, false, false, false, false, false, false, false, false, false, false, false, false] rfl rfl (any_of HT_.out (by kernel_rfl)) (fun _ _ _ h => h) (Or.inl ⟨by rfl, ?_⟩) ?_ ?_
    rotate_left
    · intro w'
      go_simp
      with_reducible rfl
    rotate_left
    · simp only [Act.put, List.setIfInBounds_toArray, List.set_cons_zero, List.set_cons_succ, i64_w, i32_w]
      rfl
    refine pure_ (i := 8) (N := some 90) (v := ?_) (a' := ?_) #[true, true, true, true, true, true, true, true, true, false, false, false, false, false, false, false, false, false, false, false, false, false, false, false, false, false, false, false, false, false, false, false, false, false, false, false, false, false, false, false, false, false, false, false, false, false, false] rfl rfl (any_of HT_.out (by kernel_rfl)) (fun _ _ _ h => h) (Or.inl ⟨by rfl, ?_⟩) ?_ ?_
    rotate_left
    · intro w'
      go_simp
      with_reducible rfl
    rotate_left
    · simp only [Act.put, List.setIfInBounds_toArray, List.set_cons_zero, List.set_cons_succ, i64_w, i32_w]
      rfl
    refine pure_ (i := 9) (N := some 91) (v := ?_) (a' := ?_) #[true, true, true, true, true, true, true, true, true, true, false, false, false, false, false, false, false, false, false, false, false, false, false, false, false, false, false, false, false, false, false, false, false, false, false, false, false, false, false, false, false, false, false, false, false, false, false] rfl rfl (any_of HT_.out (by kernel_rfl)) (fun _ _ _ h => h) (Or.inl ⟨by rfl, ?_⟩) ?_ ?_
    rotate_left
    · intro w'
      go_simp
      with_reducible rfl
    rotate_left
    · simp only [Act.put, List.setIfInBounds_toArray, List.set_cons_zero, List.set_cons_succ, i64_w, i32_w]
      rfl
    refine pure_ (i := 10) (N := some 92) (v := ?_) (a' := ?_) #[true, true, true, true, true, true, true, true, true, true, true, false, false, false, false, false, false, false, false, false, false, false, false, false, false, false, false, false, false, false, false, false, false, false, false, false, false, false, false, false, false, false, false, false, false, false, false] rfl rfl (any_of HT_.out (by kernel_rfl)) (fun _ _ _ h => h) (Or.inl ⟨by rfl, ?_⟩) ?_ ?_
    rotate_left
    · intro w'
      go_simp
      with_reducible rfl
    rotate_left
    · simp only [Act.put, List.setIfInBounds_toArray, List.set_cons_zero, List.set_cons_succ, i64_w, i32_w]
      rfl
    refine pure_ (i := 11) (N := some 93) (v := ?_) (a' := ?_) #[true, true, true, true, true, true, true, true, true, true, true, true, false, false, false, false, false, false, false, false, false, false, false, false, false, false, false, false, false, false, false, false, false, false, false, false, false, false, false, false, false, false, false, false, false, false, false] rfl rfl (any_of HT_.out (by kernel_rfl)) (fun _ _ _ h => h) (Or.inl ⟨by rfl, ?_⟩) ?_ ?_
    rotate_left
    · intro w'
      go_simp
      with_reducible rfl
    rotate_left
    · simp only [Act.put, List.setIfInBounds_toArray, List.set_cons_zero, List.set_cons_succ, i64_w, i32_w]
      rfl
    refine pure_ (i := 12) (N := some 94) (v := ?_) (a' := ?_) #[true, true, true, true, true, true, true, true, true, true, true, true, true, false, false, false, false, false, false, false, false, false, false, false, false, false, false, false, false, false, false, false, false, false, false, false, false, false, false, false, false, false, false, false, false, false, false] rfl rfl (any_of HT_.out (by kernel_rfl)) (fun _ _ _ h => h) (Or.inl ⟨by rfl, ?_⟩) ?_ ?_
    rotate_left
    · intro w'
      go_simp
      with_reducible rfl
    rotate_left
    · simp only [Act.put, List.setIfInBounds_toArray, List.set_cons_zero, List.set_cons_succ, i64_w, i32_w]
      rfl
    refine pure_ (i := 13) (N := some 95) (v := ?_) (a' := ?_) #[true, true, true, true, true, true, true, true, true, true, true, true, true, true, false, false, false, false, false, false, false, false, false, false, false, false, false, false, false, false, false, false, false, false, false, false, false, false, false, false, false, false, false, false, false, false, false] rfl rfl (any_of HT_.out (by kernel_rfl)) (fun _ _ _ h => h) (Or.inl ⟨by rfl, ?_⟩) ?_ ?_
    rotate_left
    · intro w'
      go_simp
      with_reducible rfl
    rotate_left
    · simp only [Act.put, List.setIfInBounds_toArray, List.set_cons_zero, List.set_cons_succ, i64_w, i32_w]
      rfl
    refine pure_ (i := 14) (N := some 96) (v := ?_) (a' := ?_) #[true, true, true, true, true, true, true, true, true, true, true, true, true, true, true, false, false, false, false, false, false, false, false, false, false, false, false, false, false, false, false, false, false, false, false, false, false, false, false, false, false, false, false, false, false, false, false] rfl rfl (any_of HT_.out (by kernel_rfl)) (fun _ _ _ h => h) (Or.inl ⟨by rfl, ?_⟩) ?_ ?_
    rotate_left
    · intro w'
      go_simp
      with_reducible rfl
    rotate_left
    · simp only [Act.put, List.setIfInBounds_toArray, List.set_cons_zero, List.set_cons_succ, i64_w, i32_w]
      rfl
    refine pure_ (i := 15) (N := some 97) (v := ?_) (a' := ?_) #[true, true, true, true, true, true, true, true, true, true, true, true, true, true, true, true, false, false, false, false, false, false, false, false, false, false, false, false, false, false, false, false, false, false, false, false, false, false, false, false, false, false, false, false, false, false, false] rfl rfl (any_of HT_.out (by kernel_rfl)) (fun _ _ _ h => h) (Or.inl ⟨by rfl, ?_⟩) ?_ ?_
    rotate_left
    · intro w'
      go_simp
      with_reducible rfl
    rotate_left
    · simp only [Act.put, List.setIfInBounds_toArray, List.set_cons_zero, List.set_cons_succ, i64_w, i32_w]
      rfl
    refine pure_ (i := 16) (N := some 98) (v := ?_) (a' := ?_) #[true, true, true, true, true, true, true, true, true, true, true, true, true, true, true, true, true, false, false, false, false, false, false, false, false, false, false, false, false, false, false, false, false, false, false, false, false, false, false, false, false, false, false, false, false, false, false] rfl rfl (any_of HT_.out (by kernel_rfl)) (fun _ _ _ h => h) (Or.inl ⟨by rfl, ?_⟩) ?_ ?_
    rotate_left
    · intro w'
      go_simp
      with_reducible rfl
    rotate_left
    · simp only [Act.put, List.setIfInBounds_toArray, List.set_cons_zero, List.set_cons_succ, i64_w, i32_w]
      rfl
    refine pure_ (i := 17) (N := some 99) (v := ?_) (a' := ?_) #[true, true, true, true, true, true, true, true, true, true, true, true, true, true, true, true, true, true, false, false, false, false, false, false, false, false, false, false, false, false, false, false, false, false, false, false, false, false, false, false, false, false, false, false, false, false, false] rfl rfl (any_of HT_.out (by kernel_rfl)) (fun _ _ _ h => h) (Or.inl ⟨by rfl, ?_⟩) ?_ ?_
    rotate_left
    · intro w'
      go_simp
      with_reducible rfl
    rotate_left
    · simp only [Act.put, List.setIfInBounds_toArray, List.set_cons_zero, List.set_cons_succ, i64_w, i32_w]
      rfl
    refine pure_ (i := 18) (N := some 100) (v := ?_) (a' := ?_) #[true, true, true, true, true, true, true, true, true, true, true, true, true, true, true, true, true, true, true, false, false, false, false, false, false, false, false, false, false, false, false, false, false, false, false, false, false, false, false, false, false, false, false, false, false, false, false] rfl rfl (any_of HT_.out (by kernel_rfl)) (fun _ _ _ h => h) (Or.inl ⟨by rfl, ?_⟩) ?_ ?_
    rotate_left
    · intro w'
      go_simp
      with_reducible rfl
    rotate_left
    · simp only [Act.put, List.setIfInBounds_toArray, List.set_cons_zero, List.set_cons_succ, i64_w, i32_w]
      rfl
    refine pure_ (i := 19) (N := some 101) (v := ?_) (a' := ?_) #[true, true, true, true, true, true, true, true, true, true, true, true, true, true, true, true, true, true, true, true, false, false, false, false, false, false, false, false, false, false, false, false, false, false, false, false, false, false, false, false, false, false, false, false, false, false, false] rfl rfl (any_of HT_.out (by kernel_rfl)) (fun _ _ _ h => h) (Or.inl ⟨by rfl, ?_⟩) ?_ ?_
    rotate_left
    · intro w'
      go_simp
      with_reducible rfl
    rotate_left
    · simp only [Act.put, List.setIfInBounds_toArray, List.set_cons_zero, List.set_cons_succ, i64_w, i32_w]
      rfl
    refine pure_ (i := 20) (N := some 102) (v := ?_) (a' := ?_) #[true, true, true, true, true, true, true, true, true, true, true, true, true, true, true, true, true, true, true, true, true, false, false, false, false, false, false, false, false, false, false, false, false, false, false, false, false, false, false, false, false, false, false, false, false, false, false] rfl rfl (any_of HT_.out (by kernel_rfl)) (fun _ _ _ h => h) (Or.inl ⟨by rfl, ?_⟩) ?_ ?_
    rotate_left
    · intro w'
      go_simp
      with_reducible rfl
    rotate_left
    · simp only [Act.put, List.setIfInBounds_toArray, List.set_cons_zero, List.set_cons_succ, i64_w, i32_w]
      rfl
    refine pure_ (i := 21) (N := some 103) (v := ?_) (a' := ?_) #[true, true, true, true, true, true, true, true, true, true, true, true, true, true, true, true, true, true, true, true, true, true, false, false, false, false, false, false, false, false, false, false, false, false, false, false, false, false, false, false, false, false, false, false, false, false, false] rfl rfl (any_of HT_.out (by kernel_rfl)) (fun _ _ _ h => h) (Or.inl ⟨by rfl, ?_⟩) ?_ ?_
    rotate_left
    · intro w'
      go_simp
      with_reducible rfl
    rotate_left
    · simp only [Act.put, List.setIfInBounds_toArray, List.set_cons_zero, List.set_cons_succ, i64_w, i32_w]
      rfl
    refine pure_ (i := 22) (N := some 104) (v := ?_) (a' := ?_) #[true, true, true, true, true, true, true, true, true, true, true, true, true, true, true, true, true, true, true, true, true, true, true, false, false, false, false, false, false, false, false, false, false, false, false, false, false, false, false, false, false, false, false, false, false, false, false] rfl rfl (any_of HT_.out (by kernel_rfl)) (fun _ _ _ h => h) (Or.inl ⟨by rfl, ?_⟩) ?_ ?_
    rotate_left
    · intro w'
      go_simp
      with_reducible rfl
    rotate_left
    · simp only [Act.put, List.setIfInBounds_toArray, List.set_cons_zero, List.set_cons_succ, i64_w, i32_w]
      rfl
    refine pure_ (i := 23) (N := some 105) (v := ?_) (a' := ?_) #[true, true, true, true, true, true, true, true, true, true, true, true, true, true, true, true, true, true, true, true, true, true, true, true, false, false, false, false, false, false, false, false, false, false, false, false, false, false, false, false, false, false, false, false, false, false, false] rfl rfl (any_of HT_.out (by kernel_rfl)) (fun _ _ _ h => h) (Or.inl ⟨by rfl, ?_⟩) ?_ ?_
    rotate_left
    · intro w'
      go_simp
      with_reducible rfl
    rotate_left
    · simp only [Act.put, List.setIfInBounds_toArray, List.set_cons_zero, List.set_cons_succ, i64_w, i32_w]
      rfl
    refine pure_ (i := 24) (N := some 106) (v := ?_) (a' := ?_) #[true, true, true, true, true, true, true, true, true, true, true, true, true, true, true, true, true, true, true, true, true, true, true, true, true, false, false, false, false, false, false, false, false, false, false, false, false, false, false, false, false, false, false, false, false, false, false] rfl rfl (any_of HT_.out (by kernel_rfl)) (fun _ _ _ h => h) (Or.inl ⟨by rfl, ?_⟩) ?_ ?_
    rotate_left
    · intro w'
      go_simp
      with_reducible rfl
    rotate_left
    · simp only [Act.put, List.setIfInBounds_toArray, List.set_cons_zero, List.set_cons_succ, i64_w, i32_w]
      rfl
    refine pure_ (i := 27) (N := some 109) (v := ?_) (a' := ?_) #[true, true, true, true, true, true, true, true, true, true, true, true, true, true, true, true, true, true, true, true, true, true, true, true, true, false, false, true, false, false, false, false, false, false, false, false, false, false, false, false, false, false, false, false, false, false, false] rfl rfl (any_of HT_.out (by kernel_rfl)) (fun _ _ _ h => h) (Or.inl ⟨by rfl, ?_⟩) ?_ ?_
    rotate_left
    · intro w'
      go_simp
      with_reducible rfl
    rotate_left
    · simp only [Act.put, List.setIfInBounds_toArray, List.set_cons_zero, List.set_cons_succ, i64_w, i32_w]
      rfl
    refine take_ (i := 28) (N := some 110) (v := ?_) (a' := ?_) #[true, true, true, true, true, true, true, true, true, true, true, true, true, true, true, true, true, true, true, true, true, true, true, true, true, false, false, true, true, false, false, false, false, false, false, false, false, false, false, false, false, false, false, false, false, false, false] rfl rfl (take_ofW HT_.out HW_.out (by kernel_rfl)) (fun _ _ _ h => h) (Or.inl ⟨by rfl, ?_⟩) hHeld ?_ ?_
    rotate_left
    · rintro w' ⟨s0, s1, s2, s3, s4, s5, s6, s7, s8, s9, s10, s11, s12, s13, s14, s15, s16, s17, s18, s19, s20, s21, s22, s23, s24, s25, s26, s27, s28, s29, s30, s31, s32, s33, s34, s35, s36⟩
      go_simp
      with_reducible rfl
    rotate_left
    · simp only [Act.put, List.setIfInBounds_toArray, List.set_cons_zero, List.set_cons_succ, i64_w, i32_w]
      rfl
    refine one_ (i := 25) (N := some 107) #[true, true, true, true, true, true, true, true, true, true, true, true, true, true, true, true, true, true, true, true, true, true, true, true, true, true, false, true, true, false, false, false, false, false, false, false, false, false, false, false, false, false, false, false, false, false, false] rfl rfl (one_of HT_.out (by kernel_rfl)) (by decide) (fun K hK => ?_)
    refine goes_ Try.func15 (by kernel_rfl) rfl #[a.p] (by rfl) rfl rfl (by (try simp only [List.map_toArray, List.map_cons, List.map_nil]); first | done | rfl) ?_
    refine (ram_at (CA1.out.below HX.out) OK.out.r1).mono ?_
    rintro e' wz ⟨v0, rfl, hR, hb⟩
    obtain ⟨A7, c7, rfl, hH⟩ := held_of_R hR
    have HY := Aside0.mk (below_step HX.out hb)
    have ts := hH.text
    clear hb hR hH
    refine ⟨_, rfl, ?_⟩
    refine hK.out _ _ ⟨(blk_cell (blk_below B4.out HY.out) 0).trans rfl, (blk_cell (blk_below B4.out HY.out) 1).trans rfl, (blk_cell (blk_below B4.out HY.out) 2).trans rfl, (blk_cell (blk_below B4.out HY.out) 3).trans rfl, (blk_cell (blk_below B4.out HY.out) 4).trans rfl, (blk_cell (blk_below B4.out HY.out) 5).trans rfl, (blk_cell (blk_below B1.out HY.out) 0).trans rfl, (blk_cell (blk_below B1.out HY.out) 1).trans rfl, (blk_cell (blk_below B1.out HY.out) 2).trans rfl, (blk_cell (blk_below B1.out HY.out) 3).trans rfl, (blk_cell (blk_below B1.out HY.out) 4).trans rfl, (blk_cell (blk_below B1.out HY.out) 5).trans rfl, (blk_cell (blk_below B5.out HY.out) 0).trans rfl, (blk_cell (blk_below B5.out HY.out) 1).trans rfl, (blk_cell (blk_below B5.out HY.out) 2).trans rfl, (blk_cell (blk_below B5.out HY.out) 3).trans rfl, (blk_cell (blk_below B5.out HY.out) 4).trans rfl, (blk_cell (blk_below B5.out HY.out) 5).trans rfl, (blk_cell (blk_below B2.out HY.out) 0).trans rfl, (blk_cell (blk_below B2.out HY.out) 1).trans rfl, (blk_cell (blk_below B2.out HY.out) 2).trans rfl, (blk_cell (blk_below B2.out HY.out) 3).trans rfl, (blk_cell (blk_below B2.out HY.out) 4).trans rfl, (blk_cell (blk_below B2.out HY.out) 5).trans rfl, (blk_cell (blk_below B6.out HY.out) 0).trans rfl, (blk_cell (blk_below B6.out HY.out) 1).trans rfl, (blk_cell (blk_below B6.out HY.out) 2).trans rfl, (blk_cell (blk_below B6.out HY.out) 3).trans rfl, (blk_cell (blk_below B6.out HY.out) 4).trans rfl, (blk_cell (blk_below B6.out HY.out) 5).trans rfl, (blk_cell (blk_below B3.out HY.out) 0).trans rfl, (blk_cell (blk_below B3.out HY.out) 1).trans rfl, (blk_cell (blk_below B3.out HY.out) 2).trans rfl, (blk_cell (blk_below B3.out HY.out) 3).trans rfl, (blk_cell (blk_below B3.out HY.out) 4).trans rfl, (blk_cell (blk_below B3.out HY.out) 5).trans rfl, (HH.out.below HY.out).text⟩ (fun hHeld => ?_)
    clear hK K
    refine norm_ (a' := ?_) ?_ ?_
    rotate_left
    · show Act.put _ (some 107) _ = _
      simp only [Act.put, List.setIfInBounds_toArray, List.set_cons_zero, List.set_cons_succ, i64_w, i32_w]
      rfl
    refine one_ (i := 26) (N := some 108) #[true, true, true, true, true, true, true, true, true, true, true, true, true, true, true, true, true, true, true, true, true, true, true, true, true, true, true, true, true, false, false, false, false, false, false, false, false, false, false, false, false, false, false, false, false, false, false] rfl rfl (one_of HT_.out (by kernel_rfl)) (by decide) (fun K hK => ?_)
    refine event_step (v := .string (strOfNums s2.ram)) (by rfl) (by go_simp; rfl) ?_
    refine hK.out _ _ ⟨(blk_cell (blk_below B4.out HY.out) 0).trans rfl, (blk_cell (blk_below B4.out HY.out) 1).trans rfl, (blk_cell (blk_below B4.out HY.out) 2).trans rfl, (blk_cell (blk_below B4.out HY.out) 3).trans rfl, (blk_cell (blk_below B4.out HY.out) 4).trans rfl, (blk_cell (blk_below B4.out HY.out) 5).trans rfl, (blk_cell (blk_below B1.out HY.out) 0).trans rfl, (blk_cell (blk_below B1.out HY.out) 1).trans rfl, (blk_cell (blk_below B1.out HY.out) 2).trans rfl, (blk_cell (blk_below B1.out HY.out) 3).trans rfl, (blk_cell (blk_below B1.out HY.out) 4).trans rfl, (blk_cell (blk_below B1.out HY.out) 5).trans rfl, (blk_cell (blk_below B5.out HY.out) 0).trans rfl, (blk_cell (blk_below B5.out HY.out) 1).trans rfl, (blk_cell (blk_below B5.out HY.out) 2).trans rfl, (blk_cell (blk_below B5.out HY.out) 3).trans rfl, (blk_cell (blk_below B5.out HY.out) 4).trans rfl, (blk_cell (blk_below B5.out HY.out) 5).trans rfl, (blk_cell (blk_below B2.out HY.out) 0).trans rfl, (blk_cell (blk_below B2.out HY.out) 1).trans rfl, (blk_cell (blk_below B2.out HY.out) 2).trans rfl, (blk_cell (blk_below B2.out HY.out) 3).trans rfl, (blk_cell (blk_below B2.out HY.out) 4).trans rfl, (blk_cell (blk_below B2.out HY.out) 5).trans rfl, (blk_cell (blk_below B6.out HY.out) 0).trans rfl, (blk_cell (blk_below B6.out HY.out) 1).trans rfl, (blk_cell (blk_below B6.out HY.out) 2).trans rfl, (blk_cell (blk_below B6.out HY.out) 3).trans rfl, (blk_cell (blk_below B6.out HY.out) 4).trans rfl, (blk_cell (blk_below B6.out HY.out) 5).trans rfl, (blk_cell (blk_below B3.out HY.out) 0).trans rfl, (blk_cell (blk_below B3.out HY.out) 1).trans rfl, (blk_cell (blk_below B3.out HY.out) 2).trans rfl, (blk_cell (blk_below B3.out HY.out) 3).trans rfl, (blk_cell (blk_below B3.out HY.out) 4).trans rfl, (blk_cell (blk_below B3.out HY.out) 5).trans rfl, (HH.out.below HY.out).text⟩ (fun hHeld => ?_)
    clear hK K
    refine norm_ (a' := ?_) ?_ ?_
    rotate_left
    · show Act.put _ (some 108) _ = _
      simp only [Act.put, List.setIfInBounds_toArray, List.set_cons_zero, List.set_cons_succ, i64_w, i32_w]
      rfl
    refine pure_ (i := 29) (N := some 111) (v := ?_) (a' := ?_) #[true, true, true, true, true, true, true, true, true, true, true, true, true, true, true, true, true, true, true, true, true, true, true, true, true, true, true, true, true, true, false, false, false, false, false, false, false, false, false, false, false, false, false, false, false, false, false] rfl rfl (any_of HT_.out (by kernel_rfl)) (fun _ _ _ h => h) (Or.inl ⟨by rfl, ?_⟩) ?_ ?_
    rotate_left
    · intro w'
      go_simp
      with_reducible rfl
    rotate_left
    · simp only [Act.put, List.setIfInBounds_toArray, List.set_cons_zero, List.set_cons_succ, i64_w, i32_w]
      rfl
    refine pure_ (i := 30) (N := some 112) (v := ?_) (a' := ?_) #[true, true, true, true, true, true, true, true, true, true, true, true, true, true, true, true, true, true, true, true, true, true, true, true, true, true, true, true, true, true, true, false, false, false, false, false, false, false, false, false, false, false, false, false, false, false, false] rfl rfl (any_of HT_.out (by kernel_rfl)) (fun _ _ _ h => h) (Or.inl ⟨by rfl, ?_⟩) ?_ ?_
    rotate_left
    · intro w'
      go_simp
      with_reducible rfl
    rotate_left
    · simp only [Act.put, List.setIfInBounds_toArray, List.set_cons_zero, List.set_cons_succ, i64_w, i32_w]
      rfl
    refine pure_ (i := 31) (N := some 113) (v := ?_) (a' := ?_) #[true, true, true, true, true, true, true, true, true, true, true, true, true, true, true, true, true, true, true, true, true, true, true, true, true, true, true, true, true, true, true, true, false, false, false, false, false, false, false, false, false, false, false, false, false, false, false] rfl rfl (any_of HT_.out (by kernel_rfl)) (fun _ _ _ h => h) (Or.inl ⟨by rfl, ?_⟩) ?_ ?_
    rotate_left
    · intro w'
      go_simp
      with_reducible rfl
    rotate_left
    · simp only [Act.put, List.setIfInBounds_toArray, List.set_cons_zero, List.set_cons_succ, i64_w, i32_w]
      rfl
    refine take_ (i := 32) (N := some 114) (v := ?_) (a' := ?_) #[true, true, true, true, true, true, true, true, true, true, true, true, true, true, true, true, true, true, true, true, true, true, true, true, true, true, true, true, true, true, true, true, true, false, false, false, false, false, false, false, false, false, false, false, false, false, false] rfl rfl (take_ofW HT_.out HW_.out (by kernel_rfl)) (fun _ _ _ h => h) (Or.inl ⟨by rfl, ?_⟩) hHeld ?_ ?_
    rotate_left
    · rintro w' ⟨s0, s1, s2, s3, s4, s5, s6, s7, s8, s9, s10, s11, s12, s13, s14, s15, s16, s17, s18, s19, s20, s21, s22, s23, s24, s25, s26, s27, s28, s29, s30, s31, s32, s33, s34, s35, s36⟩
      go_simp
      with_reducible rfl
    rotate_left
    · simp only [Act.put, List.setIfInBounds_toArray, List.set_cons_zero, List.set_cons_succ, i64_w, i32_w]
      rfl
    refine take_ (i := 33) (N := some 115) (v := ?_) (a' := ?_) #[true, true, true, true, true, true, true, true, true, true, true, true, true, true, true, true, true, true, true, true, true, true, true, true, true, true, true, true, true, true, true, true, true, true, false, false, false, false, false, false, false, false, false, false, false, false, false] rfl rfl (take_ofW HT_.out HW_.out (by kernel_rfl)) (fun _ _ _ h => h) (Or.inl ⟨by rfl, ?_⟩) hHeld ?_ ?_
    rotate_left
    · rintro w' ⟨s0, s1, s2, s3, s4, s5, s6, s7, s8, s9, s10, s11, s12, s13, s14, s15, s16, s17, s18, s19, s20, s21, s22, s23, s24, s25, s26, s27, s28, s29, s30, s31, s32, s33, s34, s35, s36⟩
      go_simp
      with_reducible rfl
    rotate_left
    · simp only [Act.put, List.setIfInBounds_toArray, List.set_cons_zero, List.set_cons_succ, i64_w, i32_w]
      rfl
    refine pure_ (i := 34) (N := some 116) (v := ?_) (a' := ?_) #[true, true, true, true, true, true, true, true, true, true, true, true, true, true, true, true, true, true, true, true, true, true, true, true, true, true, true, true, true, true, true, true, true, true, true, false, false, false, false, false, false, false, false, false, false, false, false] rfl rfl (any_of HT_.out (by kernel_rfl)) (fun _ _ _ h => h) (Or.inl ⟨by rfl, ?_⟩) ?_ ?_
    rotate_left
    · intro w'
      go_simp
      with_reducible rfl
    rotate_left
    · simp only [Act.put, List.setIfInBounds_toArray, List.set_cons_zero, List.set_cons_succ, i64_w, i32_w]
      rfl
    refine pure_ (i := 35) (N := some 117) (v := ?_) (a' := ?_) #[true, true, true, true, true, true, true, true, true, true, true, true, true, true, true, true, true, true, true, true, true, true, true, true, true, true, true, true, true, true, true, true, true, true, true, true, false, false, false, false, false, false, false, false, false, false, false] rfl rfl (any_of HT_.out (by kernel_rfl)) (fun _ _ _ h => h) (Or.inl ⟨by rfl, ?_⟩) ?_ ?_
    rotate_left
    · intro w'
      go_simp
      with_reducible rfl
    rotate_left
    · simp only [Act.put, List.setIfInBounds_toArray, List.set_cons_zero, List.set_cons_succ, i64_w, i32_w]
      rfl
    refine pure_ (i := 36) (N := some 118) (v := ?_) (a' := ?_) #[true, true, true, true, true, true, true, true, true, true, true, true, true, true, true, true, true, true, true, true, true, true, true, true, true, true, true, true, true, true, true, true, true, true, true, true, true, false, false, false, false, false, false, false, false, false, false] rfl rfl (any_of HT_.out (by kernel_rfl)) (fun _ _ _ h => h) (Or.inl ⟨by rfl, ?_⟩) ?_ ?_
    rotate_left
    · intro w'
      go_simp
      with_reducible rfl
    rotate_left
    · simp only [Act.put, List.setIfInBounds_toArray, List.set_cons_zero, List.set_cons_succ, i64_w, i32_w]
      rfl
    refine take_ (i := 37) (N := some 119) (v := ?_) (a' := ?_) #[true, true, true, true, true, true, true, true, true, true, true, true, true, true, true, true, true, true, true, true, true, true, true, true, true, true, true, true, true, true, true, true, true, true, true, true, true, true, false, false, false, false, false, false, false, false, false] rfl rfl (take_ofW HT_.out HW_.out (by kernel_rfl)) (fun _ _ _ h => h) (Or.inl ⟨by rfl, ?_⟩) hHeld ?_ ?_
    rotate_left
    · rintro w' ⟨s0, s1, s2, s3, s4, s5, s6, s7, s8, s9, s10, s11, s12, s13, s14, s15, s16, s17, s18, s19, s20, s21, s22, s23, s24, s25, s26, s27, s28, s29, s30, s31, s32, s33, s34, s35, s36⟩
      go_simp
      with_reducible rfl
    rotate_left
    · simp only [Act.put, List.setIfInBounds_toArray, List.set_cons_zero, List.set_cons_succ, i64_w, i32_w]
      rfl
    refine take_ (i := 38) (N := some 120) (v := ?_) (a' := ?_) #[true, true, true, true, true, true, true, true, true, true, true, true, true, true, true, true, true, true, true, true, true, true, true, true, true, true, true, true, true, true, true, true, true, true, true, true, true, true, true, false, false, false, false, false, false, false, false] rfl rfl (take_ofW HT_.out HW_.out (by kernel_rfl)) (fun _ _ _ h => h) (Or.inl ⟨by rfl, ?_⟩) hHeld ?_ ?_
    rotate_left
    · rintro w' ⟨s0, s1, s2, s3, s4, s5, s6, s7, s8, s9, s10, s11, s12, s13, s14, s15, s16, s17, s18, s19, s20, s21, s22, s23, s24, s25, s26, s27, s28, s29, s30, s31, s32, s33, s34, s35, s36⟩
      go_simp
      with_reducible rfl
    rotate_left
    · simp only [Act.put, List.setIfInBounds_toArray, List.set_cons_zero, List.set_cons_succ, i64_w, i32_w]
      rfl
    refine pure_ (i := 39) (N := some 121) (v := ?_) (a' := ?_) #[true, true, true, true, true, true, true, true, true, true, true, true, true, true, true, true, true, true, true, true, true, true, true, true, true, true, true, true, true, true, true, true, true, true, true, true, true, true, true, true, false, false, false, false, false, false, false] rfl rfl (any_of HT_.out (by kernel_rfl)) (fun _ _ _ h => h) (Or.inl ⟨by rfl, ?_⟩) ?_ ?_
    rotate_left
    · intro w'
      go_simp
      with_reducible rfl
    rotate_left
    · simp only [Act.put, List.setIfInBounds_toArray, List.set_cons_zero, List.set_cons_succ, i64_w, i32_w]
      rfl
    refine pure_ (i := 40) (N := some 122) (v := ?_) (a' := ?_) #[true, true, true, true, true, true, true, true, true, true, true, true, true, true, true, true, true, true, true, true, true, true, true, true, true, true, true, true, true, true, true, true, true, true, true, true, true, true, true, true, true, false, false, false, false, false, false] rfl rfl (any_of HT_.out (by kernel_rfl)) (fun _ _ _ h => h) (Or.inl ⟨by rfl, ?_⟩) ?_ ?_
    rotate_left
    · intro w'
      go_simp
      with_reducible rfl
    rotate_left
    · simp only [Act.put, List.setIfInBounds_toArray, List.set_cons_zero, List.set_cons_succ, i64_w, i32_w]
      rfl
    refine pure_ (i := 41) (N := some 123) (v := ?_) (a' := ?_) #[true, true, true, true, true, true, true, true, true, true, true, true, true, true, true, true, true, true, true, true, true, true, true, true, true, true, true, true, true, true, true, true, true, true, true, true, true, true, true, true, true, true, false, false, false, false, false] rfl rfl (any_of HT_.out (by kernel_rfl)) (fun _ _ _ h => h) (Or.inl ⟨by rfl, ?_⟩) ?_ ?_
    rotate_left
    · intro w'
      go_simp
      with_reducible rfl
    rotate_left
    · simp only [Act.put, List.setIfInBounds_toArray, List.set_cons_zero, List.set_cons_succ, i64_w, i32_w]
      rfl
    refine take_ (i := 42) (N := some 124) (v := ?_) (a' := ?_) #[true, true, true, true, true, true, true, true, true, true, true, true, true, true, true, true, true, true, true, true, true, true, true, true, true, true, true, true, true, true, true, true, true, true, true, true, true, true, true, true, true, true, true, false, false, false, false] rfl rfl (take_ofW HT_.out HW_.out (by kernel_rfl)) (fun _ _ _ h => h) (Or.inl ⟨by rfl, ?_⟩) hHeld ?_ ?_
    rotate_left
    · rintro w' ⟨s0, s1, s2, s3, s4, s5, s6, s7, s8, s9, s10, s11, s12, s13, s14, s15, s16, s17, s18, s19, s20, s21, s22, s23, s24, s25, s26, s27, s28, s29, s30, s31, s32, s33, s34, s35, s36⟩
      go_simp
      with_reducible rfl
    rotate_left
    · simp only [Act.put, List.setIfInBounds_toArray, List.set_cons_zero, List.set_cons_succ, i64_w, i32_w]
      rfl
    refine take_ (i := 43) (N := some 125) (v := ?_) (a' := ?_) #[true, true, true, true, true, true, true, true, true, true, true, true, true, true, true, true, true, true, true, true, true, true, true, true, true, true, true, true, true, true, true, true, true, true, true, true, true, true, true, true, true, true, true, true, false, false, false] rfl rfl (take_ofW HT_.out HW_.out (by kernel_rfl)) (fun _ _ _ h => h) (Or.inl ⟨by rfl, ?_⟩) hHeld ?_ ?_
    rotate_left
    · rintro w' ⟨s0, s1, s2, s3, s4, s5, s6, s7, s8, s9, s10, s11, s12, s13, s14, s15, s16, s17, s18, s19, s20, s21, s22, s23, s24, s25, s26, s27, s28, s29, s30, s31, s32, s33, s34, s35, s36⟩
      go_simp
      with_reducible rfl
    rotate_left
    · simp only [Act.put, List.setIfInBounds_toArray, List.set_cons_zero, List.set_cons_succ, i64_w, i32_w]
      rfl
    refine pure_ (i := 44) (N := some 126) (v := ?_) (a' := ?_) #[true, true, true, true, true, true, true, true, true, true, true, true, true, true, true, true, true, true, true, true, true, true, true, true, true, true, true, true, true, true, true, true, true, true, true, true, true, true, true, true, true, true, true, true, true, false, false] rfl rfl (any_of HT_.out (by kernel_rfl)) (fun _ _ _ h => h) (Or.inl ⟨by rfl, ?_⟩) ?_ ?_
    rotate_left
    · intro w'
      go_simp
      with_reducible rfl
    rotate_left
    · simp only [Act.put, List.setIfInBounds_toArray, List.set_cons_zero, List.set_cons_succ, i64_w, i32_w]
      rfl
    refine pure_ (i := 45) (N := some 127) (v := ?_) (a' := ?_) #[true, true, true, true, true, true, true, true, true, true, true, true, true, true, true, true, true, true, true, true, true, true, true, true, true, true, true, true, true, true, true, true, true, true, true, true, true, true, true, true, true, true, true, true, true, true, false] rfl rfl (any_of HT_.out (by kernel_rfl)) (fun _ _ _ h => h) (Or.inl ⟨by rfl, ?_⟩) ?_ ?_
    rotate_left
    · intro w'
      go_simp
      with_reducible rfl
    rotate_left
    · simp only [Act.put, List.setIfInBounds_toArray, List.set_cons_zero, List.set_cons_succ, i64_w, i32_w]
      rfl
    refine pure_ (i := 46) (N := some 6) (v := ?_) (a' := ?_) #[true, true, true, true, true, true, true, true, true, true, true, true, true, true, true, true, true, true, true, true, true, true, true, true, true, true, true, true, true, true, true, true, true, true, true, true, true, true, true, true, true, true, true, true, true, true, true] rfl rfl (any_of HT_.out (by kernel_rfl)) (fun _ _ _ h => h) (Or.inl ⟨by rfl, ?_⟩) ?_ ?_
    rotate_left
    · intro w'
      go_simp
      with_reducible rfl
    rotate_left
    · simp only [Act.put, List.setIfInBounds_toArray, List.set_cons_zero, List.set_cons_succ, i64_w, i32_w]
      rfl
    refine done_ (done_of HT_.out (by kernel_rfl)) ?_
    go_wp2
    go_returns
    exact ⟨rfl, below_step HB4.out HY.out⟩
theorem whirligiglaw10_CartLoads.direct (A0 : Option Addr) (c0 : Nat) (l0 : List Int) (A1 : Option Addr) (c1 : Nat) (l1 : List Act1) (A2 : Option Addr) (c2 : Nat) (l2 : List Int) (w : World) (hr0 : Kd.C (Kd.int .u8) w A0 l0.length l0) (hc0 : l0.length ≤ c0) (hr1 : ActsAt w A1 l1) (hc1 : l1.length ≤ c1) (hr2 : Kd.C (Kd.int .u8) w A2 l2.length l2) (hc2 : l2.length ≤ c2) (w0 : l0.length ≤ 9223372036854775807) (y0 : ∀ x ∈ l0, 0 ≤ x ∧ x ≤ 255) (w1 : l1.length ≤ 9223372036854775807) (y1 : True) (w2 : l2.length ≤ 9223372036854775807) (y2 : ∀ x ∈ l2, 0 ≤ x ∧ x ≤ 255) :
    Calls Try.prog 7 #[.slice A0 l0.length c0, .slice A1 l1.length c1, .slice A2 l2.length c2] w fun e w' => e = .returned (.bool true) ∧ Below w.heap.size w w' := by
  by_cases he : headE l0 = 0
  · exact loads_ok A0 c0 l0 A1 c1 l1 A2 c2 l2 w hr0 hc0 y0 hr1 hc1 hr2 hc2 y2 he
  · exact loads_no A0 c0 l0 _ _ w hr0 hc0 y0 he
end Go.Proofs.Ytmjjojbedllmgaa.Hand
end
namespace Go.Proofs.Ytmjjojbedllmgaa.cartLoads
open Go.ChangeShapes Go.WideShapes Go.ChangeAt Go.RowKit
open Go.ChangeMaps (open_string shut_string)
set_option linter.unusedVariables false
theorem own : ownKnob Try.prog.godebug = none := by kernel_rfl
theorem laidOut : laidOutB Try.prog = true := by kernel_rfl
set_option maxRecDepth 100000 in
theorem lifted (os : Os) (started : os.Started) (H : Type) (enc : TypeId × Value → H) :
    ReturnsInHanded {} Try.checked os 7 .any (Rows.cartLoadsSpec.pre6 enc Try.prog Try.f7 Rows.cartLoadsRow.domain false) (Rows.cartLoadsSpec.post enc Try.prog Try.f7 false true false false) := by
  refine Frame.lifted_of (C := Try.checked) (bt := 4) own started (by kernel_rfl) Try.func7
    (ChangeSpec.witness6 (enc := enc) (C := Try.checked) false ⟨#[], #[.slice none 0 0, .slice none 0 0, .slice none 0 0], []⟩ 8 (by kernel_rfl) (by kernel_rfl) (by kernel_rfl) (by kernel_rfl)) rfl rfl Try.underlying4 ?_ laidOut (by kernel_rfl) ?_
  · intro ds h
    have h' : ds.length = 3 := h
    match ds, h' with
    | [d0, d1, d2], _ => rfl
  · intro W base vs ds p hval0 hA0 hsz0
    have hval : ∀ (j : Nat) (t : TypeId) (v : Value), Try.f7.params.toList[j]? = some t → vs[j]? = some v → Value.okWide Try.prog W .any base t v := hval0
    have hA : DataW.TrodAll enc Try.prog W 0 (fun _ => true) true Try.f7.params.toList vs ds p := hA0
    have hsz : (DataW.weightsEach Try.prog Try.f7.params.toList ds).all (· ≤ reachBytes) = true := hsz0
    rw [Try.params7] at hA hval hsz
    clear hval0 hA0 hsz0
    obtain ⟨v0, vs0, d0, ds0, p0, q0, rfl, rfl, rfl, h0, r0⟩ := trodAll_cons hA
    obtain ⟨v1, vs1, d1, ds1, p1, q1, rfl, rfl, rfl, h1, r1⟩ := trodAll_cons r0
    obtain ⟨v2, vs2, d2, ds2, p2, q2, rfl, rfl, rfl, h2, r2⟩ := trodAll_cons r1
    obtain ⟨rfl, rfl, rfl⟩ := trodAll_nil r2
    obtain ⟨A0, l0, c0, rfl, hr0, hc0, w0, y0⟩ := Pairs.open_bytes (okWide_slice Try.underlying22 (hval 0 22 v0 rfl rfl)) h0
    obtain ⟨A1, l1, c1, rfl, hr1, hc1, w1, y1⟩ := ActsRow.open_wrote (okWide_slice Try.underlying44 (hval 1 44 v1 rfl rfl)) h1
    obtain ⟨A2, l2, c2, rfl, hr2, hc2, w2, y2⟩ := Pairs.open_bytes (okWide_slice Try.underlying22 (hval 2 22 v2 rfl rfl)) h2
    exact (Hand.whirligiglaw10_CartLoads.direct A0 c0 l0 A1 c1 l1 A2 c2 l2 W hr0 hc0 hr1 hc1 hr2 hc2 w0 y0 w1 y1 w2 y2).mono fun e w' ⟨he, hb⟩ => ⟨he, hb⟩
theorem over : Rows.cartLoadsRow.holds Try.pinned (OpenSpec.ofChange Rows.cartLoadsSpec) :=
  OpenClaim.holds_of_wide 7 Try.f7 rfl rfl rfl rfl rfl rfl rfl ⟨rfl, rfl, rfl, rfl, rfl⟩ rfl rfl rfl rfl rfl (by kernel_rfl) Try.func7 (by kernel_rfl)
    (of_decide_eq_true (by kernel_rfl)) (by unfold Func.isWrapper; first | (rw [if_pos (by decide +kernel)]; kernel_rfl) | (rw [if_neg (by decide +kernel)]; exact ⟨rfl, rfl⟩))
    (fun os started H enc _ => lifted os started H enc)
theorem proved : Rows.CartLoadsSaid := over
end Go.Proofs.Ytmjjojbedllmgaa.cartLoads
namespace Go.Proofs.Ytmjjojbedllmgaa
theorem cartLoads_holds : Rows.CartLoadsSaid := cartLoads.proved
end Go.Proofs.Ytmjjojbedllmgaa
