/- The statement CartBack: for every input the law returns true and each argument reads as before. (Packed by pack.py out of this session's texts.) -/
import Derived.Handy
import Derived.Test.YtmjjojbedllmgaaRows
import Derived.Test.YtmjjojbedllmgaaQCartBack0
import Derived.Test.YtmjjojbedllmgaaQCartBack4
section
namespace Go.Proofs.Ytmjjojbedllmgaa.Hand
open Go.RowKit
open Go.Proofs.Ytmjjojbedllmgaa.G
open Go.Proofs.YtmjjojbedllmgaaW.PrintWords Go.Proofs.YtmjjojbedllmgaaW.PrintLast Go.Proofs.YtmjjojbedllmgaaW.PrintMore
theorem i32_w (n : Int) : IntKind.i32.wrap n = Go.RowKit.wrap32 n := by unfold Go.RowKit.wrap32; exact IntKind.wrap_i32 n
set_option linter.unusedVariables false
set_option linter.unusedSimpArgs false
set_option maxRecDepth 100000
def back15.T : Bool × List (List Nat × List Nat) := (true, [([], []), ([0], [0]), ([1], [1]), ([2, 1], [1, 2]), ([1, 3], [1, 3]), ([4, 1], [4]), ([5], [5]), ([5], [5]), ([6, 7, 5], [5, 6, 7]), ([5, 8], [5, 8]), ([9, 5], [9]), ([10], [10]), ([10], [10]), ([11, 12, 10], [10, 11, 12]), ([10, 13], [10, 13]), ([14, 10], [14]), ([15], [15]), ([15], [15]), ([16, 17, 15], [15, 16, 17]), ([15, 18], [15, 18]), ([19, 15], [19]), ([20], [20]), ([21, 20, 20], [20, 21]), ([22, 20], [20, 22]), ([20], [20]), ([24, 22, 20], [20, 24]), ([25, 20], [20, 25]), ([23, 26, 20], [20, 23, 26]), ([20, 27], [20, 27]), ([28, 25], [28]), ([29], [29]), ([30, 29, 29], [29, 30]), ([31, 29], [29, 31]), ([29], [29]), ([33, 29], [29, 33]), ([32, 34, 29], [29, 32, 34]), ([29, 35], [29, 35]), ([36, 31, 0, 1, 2, 3, 4, 5, 6, 7, 8, 9, 10, 11, 12, 13, 14, 15, 16, 17, 18, 19, 20, 21, 22, 23, 24, 25, 26, 27, 28, 29, 30, 31, 32, 33, 34, 35, 36], [36])])
def back15.B : List Nat := [0, 1, 3, 7, 15, 31, 63, 63, 255, 511, 1023, 2047, 2047, 8191, 16383, 32767, 65535, 65535, 262143, 524287, 1048575, 2097151, 4194303, 8388607, 2097151, 25165823, 58720255, 134217727, 268435455, 536870911, 1073741823, 2147483647, 4294967295, 1073741823, 9663676415, 34359738367, 68719476735, 137438953471]
theorem back15.tab : rtab .any (opsOf Try.f6 15) = back15.T := by kernel_rfl
theorem back15.bits : waitsOk back15.T.2 back15.B = true := by kernel_rfl
set_option maxHeartbeats 8000000 in
theorem back_no (A0 : Option Addr) (c0 : Nat) (l0 : List Int) (A1 : Option Addr) (c1 : Nat) (l1 : List Act1) (A2 : Option Addr) (c2 : Nat) (l2 : List Act1) (w : World) (hr0 : Kd.C (Kd.int .u8) w A0 l0.length l0) (hc0 : l0.length ≤ c0) (hb0 : Bytes l0) (hr1 : ActsAt w A1 l1) (hc1 : l1.length ≤ c1) (hr2 : ActsAt w A2 l2) (hc2 : l2.length ≤ c2) (he : ¬ headE l0 = 0) :
    Calls Try.prog 6 #[.slice A0 l0.length c0, .slice A1 l1.length c1, .slice A2 l2.length c2] w fun e w' => e = .returned (.bool true) ∧ Below w.heap.size w w' := by
  have HR := Aside0.mk hr0
  have HC := Aside0.mk hc0
  have HBY := Aside0.mk hb0
  have HR1 := Aside0.mk hr1
  have HC1 := Aside0.mk hc1
  have HR2 := Aside0.mk hr2
  have HC2 := Aside0.mk hc2
  have HE := Aside0.mk he
  have bz : (headE l0 != 0) = true := by simp [he]
  clear hr0 hc0 hb0 hr1 hc1 hr2 hc2 he
  go_enter Try.func6, Try.ntmps6
  go_wp2_with fail
  refine (shown_at _).mono ?_
  rintro e' w1 ⟨rfl, hb⟩
  have HB := Aside0.mk hb
  clear hb
  go_wp2_with fail
  refine (new_no A0 c0 l0 w1 (Kd.C_below HR.out HB.out) HC.out HBY.out HE.out).mono ?_
  rintro e' w2 ⟨rfl, hb⟩
  have HB_ := Aside0.mk (below_step HB.out hb)
  clear HB
  have HB := HB_
  clear HB_
  clear hb
  go_wp2_with fail
  refine (new_no A0 c0 l0 w2 (Kd.C_below HR.out HB.out) HC.out HBY.out HE.out).mono ?_
  rintro e' w3 ⟨rfl, hb⟩
  have HB_ := Aside0.mk (below_step HB.out hb)
  clear HB
  have HB := HB_
  clear HB_
  clear hb
  go_wp2_with fail
  refine (does_nil A1 c1 l1 HR1.out HC1.out HB.out).mono ?_
  rintro e' w4 ⟨rfl, hb⟩
  have HB_ := Aside0.mk (below_step HB.out hb)
  clear HB
  have HB := HB_
  clear HB_
  clear hb
  go_wp2_with fail
  refine (does_nil A2 c2 l2 HR2.out HC2.out HB.out).mono ?_
  rintro e' w5 ⟨rfl, hb⟩
  have HB_ := Aside0.mk (below_step HB.out hb)
  clear HB
  have HB := HB_
  clear HB_
  clear hb
  go_wp2_with fail
  refine (save_nil _).mono ?_
  rintro e' w6 ⟨rfl, hb⟩
  have HB_ := Aside0.mk (below_step HB.out hb)
  clear HB
  have HB := HB_
  clear HB_
  clear hb
  go_wp2_with fail
  refine (state_nil _).mono ?_
  rintro e' w7 ⟨rfl, hb⟩
  have HB_ := Aside0.mk (below_step HB.out hb)
  clear HB
  have HB := HB_
  clear HB_
  clear hb
  go_wp2_with fail
  refine (load_nil _ _).mono ?_
  rintro e' w8 ⟨rfl, hw⟩
  replace hw := hw.symm
  subst hw
  go_wp2_with fail
  refine (state_nil _).mono ?_
  rintro e' w8 ⟨rfl, hb⟩
  have HB_ := Aside0.mk (below_step (below_alloc (below_alloc (below_alloc HB.out _) _) _) hb)
  clear HB hb
  go_wp2
  go_returns
  exact ⟨rfl, by repeat (first | exact HB_.out | apply below_alloc)⟩
set_option maxHeartbeats 8000000 in
theorem back_ok (A0 : Option Addr) (c0 : Nat) (l0 : List Int) (A1 : Option Addr) (c1 : Nat) (l1 : List Act1) (A2 : Option Addr) (c2 : Nat) (l2 : List Act1) (w : World) (hr0 : Kd.C (Kd.int .u8) w A0 l0.length l0) (hc0 : l0.length ≤ c0) (hb0 : Bytes l0) (hr1 : ActsAt w A1 l1) (hc1 : l1.length ≤ c1) (hr2 : ActsAt w A2 l2) (hc2 : l2.length ≤ c2) (he : headE l0 = 0) :
    Calls Try.prog 6 #[.slice A0 l0.length c0, .slice A1 l1.length c1, .slice A2 l2.length c2] w fun e w' => e = .returned (.bool true) ∧ Below w.heap.size w w' := by
  obtain ⟨s, hs⟩ : ∃ s, s = doesS (newC l0) (l1.take 60) := ⟨_, rfl⟩
  obtain ⟨t, ht⟩ : ∃ t, t = doesS (newC l0) (l2.take 60) := ⟨_, rfl⟩
  obtain ⟨u, hu⟩ : ∃ u, u = t.loadS s.saveL := ⟨_, rfl⟩
  have x1 : ∀ x ∈ l1.take 60, x.Ok := fun y hy => hr1.oks y (List.mem_of_mem_take hy)
  have x2 : ∀ x ∈ l2.take 60, x.Ok := fun y hy => hr2.oks y (List.mem_of_mem_take hy)
  have OK0 := Aside0.mk (newC_ok hb0 he)
  have OKS := Aside0.mk (show s.Ok from by rw [hs]; exact (newC_ok hb0 he).does _ x1)
  have OKT := Aside0.mk (show t.Ok from by rw [ht]; exact (newC_ok hb0 he).does _ x2)
  have OKU := Aside0.mk (show u.Ok from by rw [hu]; exact OKT.out.load _)
  have NM := Aside0.mk (show Pure.Nm s from by rw [hs]; exact Pure.Nm.new.does _ x1)
  have ZS := Aside0.mk (show Pure.Zc s from by rw [hs]; exact Pure.Zc.does _ (Pure.Zc.new l0))
  have ZT := Aside0.mk (show Pure.Zc t from by rw [ht]; exact Pure.Zc.does _ (Pure.Zc.new l0))
  have KS := Aside0.mk (show t.hdr = s.hdr ∧ t.ram.length = s.ram.length from by rw [hs, ht, (Pure.does_keeps _ _).2.2, (Pure.does_keeps _ _).2.2, (Pure.does_keeps _ _).2.1, (Pure.does_keeps _ _).2.1]; exact ⟨rfl, rfl⟩)
  have HS := Aside0.mk hs
  have HT := Aside0.mk ht
  have HU := Aside0.mk hu
  have HR0 := Aside0.mk hr0
  have HC0 := Aside0.mk hc0
  have HB0 := Aside0.mk hb0
  have HR1 := Aside0.mk hr1
  have HC1 := Aside0.mk hc1
  have HR2 := Aside0.mk hr2
  have HC2 := Aside0.mk hc2
  have HE := Aside0.mk he
  clear hr0 hc0 hb0 hr1 hc1 hr2 hc2 he hs ht hu x1 x2
  go_enter Try.func6, Try.ntmps6
  go_wp2_with fail
  refine (shown_at _).mono ?_
  rintro e' w1 ⟨rfl, hb⟩
  have HB := Aside0.mk hb
  clear hb
  go_wp2_with fail
  refine (new_at A0 c0 l0 w1 (Kd.C_below HR0.out HB.out) HC0.out HB0.out HE.out).mono ?_
  rintro e' w2 ⟨a, rfl, hCa, ha1, ha2, ha3, hb⟩
  have CA := Aside0.mk hCa
  have HA := Aside0.mk (show w.heap.size ≤ a.b ∧ w.heap.size ≤ a.gr from ⟨Nat.le_trans HB.out.size ha1, Nat.le_trans HB.out.size ha3⟩)
  have HB3 := Aside0.mk (below_step HB.out hb)
  clear hCa ha1 ha2 ha3 hb HB
  go_wp2_with fail
  refine (new_at A0 c0 l0 w2 (Kd.C_below HR0.out HB3.out) HC0.out HB0.out HE.out).mono ?_
  rintro e' w3 ⟨d, rfl, hCd, hd1, hd2, hd3, hb⟩
  have CD := Aside0.mk hCd
  have HD := Aside0.mk (show w.heap.size ≤ d.b ∧ w.heap.size ≤ d.gr from ⟨Nat.le_trans HB3.out.size hd1, Nat.le_trans HB3.out.size hd3⟩)
  have AD := Aside0.mk (show (a.b < w2.heap.size ∧ a.gi < w2.heap.size ∧ a.gr < w2.heap.size) ∧ w2.heap.size ≤ d.b ∧ w2.heap.size ≤ d.gi ∧ w2.heap.size ≤ d.gr from ⟨⟨CA.out.ltb, CA.out.lti, CA.out.ltr⟩, hd1, hd2, hd3⟩)
  have CA_ := Aside0.mk (CA.out.below hb)
  have HB4 := Aside0.mk (below_step HB3.out hb)
  clear CA
  have CA := CA_
  clear hCd hd1 hd2 hd3 hb HB3 CA_
  go_wp2_with fail
  have LB := Aside0.mk (CA.out.ltb)
  have LR := Aside0.mk (CA.out.ltr)
  have MB := Aside0.mk (CD.out.ltb)
  have MR := Aside0.mk (CD.out.ltr)
  refine (does_at CA.out OK0.out A1 c1 l1 HR1.out HC1.out HB4.out HA.out.1 HA.out.2).mono ?_
  rintro e' w4 ⟨rfl, hC, hu⟩
  have CA_ := Aside0.mk ((show CartAt w4 a s from by rw [HS.out]; exact hC))
  have CD_ := Aside0.mk (CD.out.other hu _ AD.out.1.1 AD.out.1.2.2 AD.out.2.1 AD.out.2.2.1 AD.out.2.2.2)
  have HB4_ := Aside0.mk (upto_step HB4.out (Nat.le_refl _) hu HA.out.1 HA.out.2)
  have LB_ := Aside0.mk (Nat.lt_of_lt_of_le LB.out hu.size)
  have LR_ := Aside0.mk (Nat.lt_of_lt_of_le LR.out hu.size)
  have MB_ := Aside0.mk (Nat.lt_of_lt_of_le MB.out hu.size)
  have MR_ := Aside0.mk (Nat.lt_of_lt_of_le MR.out hu.size)
  clear CA CD HB4 LB LR MB MR
  have CA := CA_
  have CD := CD_
  have HB4 := HB4_
  have LB := LB_
  have LR := LR_
  have MB := MB_
  have MR := MR_
  clear CA_ CD_ HB4_ LB_ LR_ MB_ MR_
  clear hC hu
  go_wp2_with fail
  refine (does_at CD.out OK0.out A2 c2 l2 HR2.out HC2.out HB4.out HD.out.1 HD.out.2).mono ?_
  rintro e' w5 ⟨rfl, hC, hu⟩
  have CA_ := Aside0.mk (CA.out.first hu _ AD.out.1.1 AD.out.1.2.1 AD.out.1.2.2 AD.out.2.1 AD.out.2.2.2)
  have CD_ := Aside0.mk ((show CartAt w5 d t from by rw [HT.out]; exact hC))
  have HB4_ := Aside0.mk (upto_step HB4.out (Nat.le_refl _) hu HD.out.1 HD.out.2)
  have LB_ := Aside0.mk (Nat.lt_of_lt_of_le LB.out hu.size)
  have LR_ := Aside0.mk (Nat.lt_of_lt_of_le LR.out hu.size)
  have MB_ := Aside0.mk (Nat.lt_of_lt_of_le MB.out hu.size)
  have MR_ := Aside0.mk (Nat.lt_of_lt_of_le MR.out hu.size)
  clear CA CD HB4 LB LR MB MR
  have CA := CA_
  have CD := CD_
  have HB4 := HB4_
  have LB := LB_
  have LR := LR_
  have MB := MB_
  have MR := MR_
  clear CA_ CD_ HB4_ LB_ LR_ MB_ MR_
  clear hC hu
  go_wp2_with fail
  have P1 := Aside0.mk (show a.b < w5.heap.size ∧ a.gr < w5.heap.size from ⟨LB.out, LR.out⟩)
  have P2 := Aside0.mk (show d.b < w5.heap.size ∧ d.gr < w5.heap.size from ⟨MB.out, MR.out⟩)
  refine (save_at CA.out OKS.out).mono ?_
  rintro e' w6 ⟨v0, rfl, hR, hb⟩
  have CA_ := Aside0.mk (CA.out.below hb)
  have CD_ := Aside0.mk (CD.out.below hb)
  have HB4_ := Aside0.mk (below_step HB4.out hb)
  have LB_ := Aside0.mk (Nat.lt_of_lt_of_le LB.out hb.size)
  have LR_ := Aside0.mk (Nat.lt_of_lt_of_le LR.out hb.size)
  have MB_ := Aside0.mk (Nat.lt_of_lt_of_le MB.out hb.size)
  have MR_ := Aside0.mk (Nat.lt_of_lt_of_le MR.out hb.size)
  clear CA CD HB4 LB LR MB MR
  have CA := CA_
  have CD := CD_
  have HB4 := HB4_
  have LB := LB_
  have LR := LR_
  have MB := MB_
  have MR := MR_
  clear CA_ CD_ HB4_ LB_ LR_ MB_ MR_
  obtain ⟨A6, c6, rfl, hH⟩ := held_of_R hR
  have HH := Aside0.mk (hH)
  clear hb hR hH
  go_wp2_with fail
  refine (state_as CD.out t.mp t.lv t.hd rfl rfl rfl).mono ?_
  rintro e' w7 ⟨rfl, hb⟩
  have CA_ := Aside0.mk (CA.out.below hb)
  have CD_ := Aside0.mk (CD.out.below hb)
  have HB4_ := Aside0.mk (below_step HB4.out hb)
  have LB_ := Aside0.mk (Nat.lt_of_lt_of_le LB.out hb.size)
  have LR_ := Aside0.mk (Nat.lt_of_lt_of_le LR.out hb.size)
  have MB_ := Aside0.mk (Nat.lt_of_lt_of_le MB.out hb.size)
  have MR_ := Aside0.mk (Nat.lt_of_lt_of_le MR.out hb.size)
  have HH_ := Aside0.mk (HH.out.below hb)
  clear CA CD HB4 LB LR MB MR HH
  have CA := CA_
  have CD := CD_
  have HB4 := HB4_
  have LB := LB_
  have LR := LR_
  have MB := MB_
  have MR := MR_
  have HH := HH_
  clear CA_ CD_ HB4_ LB_ LR_ MB_ MR_ HH_
  clear hb
  have P3 := Aside0.mk (show a.b < w7.heap.size ∧ a.gr < w7.heap.size from ⟨LB.out, LR.out⟩)
  have P4 := Aside0.mk (show d.b < w7.heap.size ∧ d.gr < w7.heap.size from ⟨MB.out, MR.out⟩)
  go_wp2_with fail
  have b0 := blk_alloc (blk_alloc (blk_new w7 (.cells #[.int .i64 t.mp.k, .bool t.mp.o, .int .u8 t.mp.l, .int .u8 t.mp.h, .int .u8 t.mp.r, .bool t.mp.md] 32)) (.cells #[.int .u8 t.lv.s, .int .u8 t.lv.m, .int .u8 t.lv.h, .int .u16 t.lv.d, .bool t.lv.ht, .bool t.lv.cy] 34)) (.cells #[.int .u8 t.hd.s, .int .u8 t.hd.m, .int .u8 t.hd.h, .int .u16 t.hd.d, .bool t.hd.ht, .bool t.hd.cy] 34)
  have b1 := blk_alloc (blk_at2 w7 (.cells #[.int .i64 t.mp.k, .bool t.mp.o, .int .u8 t.mp.l, .int .u8 t.mp.h, .int .u8 t.mp.r, .bool t.mp.md] 32) (.cells #[.int .u8 t.lv.s, .int .u8 t.lv.m, .int .u8 t.lv.h, .int .u16 t.lv.d, .bool t.lv.ht, .bool t.lv.cy] 34)) (.cells #[.int .u8 t.hd.s, .int .u8 t.hd.m, .int .u8 t.hd.h, .int .u16 t.hd.d, .bool t.hd.ht, .bool t.hd.cy] 34)
  have b2 := blk_at3 w7 (.cells #[.int .i64 t.mp.k, .bool t.mp.o, .int .u8 t.mp.l, .int .u8 t.mp.h, .int .u8 t.mp.r, .bool t.mp.md] 32) (.cells #[.int .u8 t.lv.s, .int .u8 t.lv.m, .int .u8 t.lv.h, .int .u16 t.lv.d, .bool t.lv.ht, .bool t.lv.cy] 34) (.cells #[.int .u8 t.hd.s, .int .u8 t.hd.m, .int .u8 t.hd.h, .int .u16 t.hd.d, .bool t.hd.ht, .bool t.hd.cy] 34)
  have hb := below_alloc (below_alloc (below_alloc (Below.refl w7.heap.size w7) (.cells #[.int .i64 t.mp.k, .bool t.mp.o, .int .u8 t.mp.l, .int .u8 t.mp.h, .int .u8 t.mp.r, .bool t.mp.md] 32)) (.cells #[.int .u8 t.lv.s, .int .u8 t.lv.m, .int .u8 t.lv.h, .int .u16 t.lv.d, .bool t.lv.ht, .bool t.lv.cy] 34)) (.cells #[.int .u8 t.hd.s, .int .u8 t.hd.m, .int .u8 t.hd.h, .int .u16 t.hd.d, .bool t.hd.ht, .bool t.hd.cy] 34)
  generalize ((w7.alloc (.cells #[.int .i64 t.mp.k, .bool t.mp.o, .int .u8 t.mp.l, .int .u8 t.mp.h, .int .u8 t.mp.r, .bool t.mp.md] 32)).alloc (.cells #[.int .u8 t.lv.s, .int .u8 t.lv.m, .int .u8 t.lv.h, .int .u16 t.lv.d, .bool t.lv.ht, .bool t.lv.cy] 34)).alloc (.cells #[.int .u8 t.hd.s, .int .u8 t.hd.m, .int .u8 t.hd.h, .int .u16 t.hd.d, .bool t.hd.ht, .bool t.hd.cy] 34) = w8 at b0 b1 b2 hb ⊢
  have CA_ := Aside0.mk (CA.out.below hb)
  have CD_ := Aside0.mk (CD.out.below hb)
  have HB4_ := Aside0.mk (below_step HB4.out hb)
  have LB_ := Aside0.mk (Nat.lt_of_lt_of_le LB.out hb.size)
  have LR_ := Aside0.mk (Nat.lt_of_lt_of_le LR.out hb.size)
  have MB_ := Aside0.mk (Nat.lt_of_lt_of_le MB.out hb.size)
  have MR_ := Aside0.mk (Nat.lt_of_lt_of_le MR.out hb.size)
  have HH_ := Aside0.mk (HH.out.below hb)
  clear CA CD HB4 LB LR MB MR HH
  have CA := CA_
  have CD := CD_
  have HB4 := HB4_
  have LB := LB_
  have LR := LR_
  have MB := MB_
  have MR := MR_
  have HH := HH_
  clear CA_ CD_ HB4_ LB_ LR_ MB_ MR_ HH_
  clear hb
  have B1 := Aside0.mk (b0)
  have B2 := Aside0.mk (b1)
  have B3 := Aside0.mk (b2)
  clear b0 b1 b2
  refine (load_at CD.out OKT.out A6 c6 s.saveL HH.out.C HH.out.1 (Pure.held_out HH.out _ P2.out.1)).mono ?_
  rintro e' w9 ⟨rfl, hC, hu⟩
  have CA_ := Aside0.mk (CA.out.first hu _ AD.out.1.1 AD.out.1.2.1 AD.out.1.2.2 AD.out.2.1 AD.out.2.2.2)
  have CD_ := Aside0.mk ((show CartAt w9 d u from by rw [HU.out]; exact hC))
  have HB4_ := Aside0.mk (upto_step HB4.out (Nat.le_refl _) hu HD.out.1 HD.out.2)
  have LB_ := Aside0.mk (Nat.lt_of_lt_of_le LB.out hu.size)
  have LR_ := Aside0.mk (Nat.lt_of_lt_of_le LR.out hu.size)
  have MB_ := Aside0.mk (Nat.lt_of_lt_of_le MB.out hu.size)
  have MR_ := Aside0.mk (Nat.lt_of_lt_of_le MR.out hu.size)
  have HH_ := Aside0.mk (HH.out.upto hu (by have q_ := P2.out; rintro k (q | q) <;> omega))
  have B1_ := Aside0.mk (hu.blk B1.out (by have q_ := P4.out; rintro (q | q) <;> omega))
  have B2_ := Aside0.mk (hu.blk B2.out (by have q_ := P4.out; rintro (q | q) <;> omega))
  have B3_ := Aside0.mk (hu.blk B3.out (by have q_ := P4.out; rintro (q | q) <;> omega))
  clear CA CD HB4 LB LR MB MR HH B1 B2 B3
  have CA := CA_
  have CD := CD_
  have HB4 := HB4_
  have LB := LB_
  have LR := LR_
  have MB := MB_
  have MR := MR_
  have HH := HH_
  have B1 := B1_
  have B2 := B2_
  have B3 := B3_
  clear CA_ CD_ HB4_ LB_ LR_ MB_ MR_ HH_ B1_ B2_ B3_
  clear hC hu
  cases hbt : s.hdr.bt with
  | false =>
    obtain ⟨q1, q2⟩ := Pure.load_none (show t.hdr.bt = false from by rw [KS.out.1]; exact hbt) s.saveL
    have q3 := Pure.save_none hbt
    have hut : u = t := HU.out.trans q2
    rw [q1]
    have hl0 : s.saveL.length = 0 := by rw [q3]; rfl
    have HBT := Aside0.mk hbt
    rw [hl0]
    clear q1 q2 q3 hbt hut hl0
    go_wp2_with fail
    refine (state_as CD.out u.mp u.lv u.hd rfl rfl rfl).mono ?_
    rintro e' w10 ⟨rfl, hb⟩
    have CA_ := Aside0.mk (CA.out.below hb)
    have CD_ := Aside0.mk (CD.out.below hb)
    have HB4_ := Aside0.mk (below_step HB4.out hb)
    have LB_ := Aside0.mk (Nat.lt_of_lt_of_le LB.out hb.size)
    have LR_ := Aside0.mk (Nat.lt_of_lt_of_le LR.out hb.size)
    have MB_ := Aside0.mk (Nat.lt_of_lt_of_le MB.out hb.size)
    have MR_ := Aside0.mk (Nat.lt_of_lt_of_le MR.out hb.size)
    have HH_ := Aside0.mk (HH.out.below hb)
    have B1_ := Aside0.mk (blk_below B1.out hb)
    have B2_ := Aside0.mk (blk_below B2.out hb)
    have B3_ := Aside0.mk (blk_below B3.out hb)
    clear CA CD HB4 LB LR MB MR HH B1 B2 B3
    have CA := CA_
    have CD := CD_
    have HB4 := HB4_
    have LB := LB_
    have LR := LR_
    have MB := MB_
    have MR := MR_
    have HH := HH_
    have B1 := B1_
    have B2 := B2_
    have B3 := B3_
    clear CA_ CD_ HB4_ LB_ LR_ MB_ MR_ HH_ B1_ B2_ B3_
    clear hb
    have P5 := Aside0.mk (show a.b < w10.heap.size ∧ a.gr < w10.heap.size from ⟨LB.out, LR.out⟩)
    have P6 := Aside0.mk (show d.b < w10.heap.size ∧ d.gr < w10.heap.size from ⟨MB.out, MR.out⟩)
    go_wp2_with fail
    have b0 := blk_alloc (blk_alloc (blk_new w10 (.cells #[.int .i64 u.mp.k, .bool u.mp.o, .int .u8 u.mp.l, .int .u8 u.mp.h, .int .u8 u.mp.r, .bool u.mp.md] 32)) (.cells #[.int .u8 u.lv.s, .int .u8 u.lv.m, .int .u8 u.lv.h, .int .u16 u.lv.d, .bool u.lv.ht, .bool u.lv.cy] 34)) (.cells #[.int .u8 u.hd.s, .int .u8 u.hd.m, .int .u8 u.hd.h, .int .u16 u.hd.d, .bool u.hd.ht, .bool u.hd.cy] 34)
    have b1 := blk_alloc (blk_at2 w10 (.cells #[.int .i64 u.mp.k, .bool u.mp.o, .int .u8 u.mp.l, .int .u8 u.mp.h, .int .u8 u.mp.r, .bool u.mp.md] 32) (.cells #[.int .u8 u.lv.s, .int .u8 u.lv.m, .int .u8 u.lv.h, .int .u16 u.lv.d, .bool u.lv.ht, .bool u.lv.cy] 34)) (.cells #[.int .u8 u.hd.s, .int .u8 u.hd.m, .int .u8 u.hd.h, .int .u16 u.hd.d, .bool u.hd.ht, .bool u.hd.cy] 34)
    have b2 := blk_at3 w10 (.cells #[.int .i64 u.mp.k, .bool u.mp.o, .int .u8 u.mp.l, .int .u8 u.mp.h, .int .u8 u.mp.r, .bool u.mp.md] 32) (.cells #[.int .u8 u.lv.s, .int .u8 u.lv.m, .int .u8 u.lv.h, .int .u16 u.lv.d, .bool u.lv.ht, .bool u.lv.cy] 34) (.cells #[.int .u8 u.hd.s, .int .u8 u.hd.m, .int .u8 u.hd.h, .int .u16 u.hd.d, .bool u.hd.ht, .bool u.hd.cy] 34)
    have hb := below_alloc (below_alloc (below_alloc (Below.refl w10.heap.size w10) (.cells #[.int .i64 u.mp.k, .bool u.mp.o, .int .u8 u.mp.l, .int .u8 u.mp.h, .int .u8 u.mp.r, .bool u.mp.md] 32)) (.cells #[.int .u8 u.lv.s, .int .u8 u.lv.m, .int .u8 u.lv.h, .int .u16 u.lv.d, .bool u.lv.ht, .bool u.lv.cy] 34)) (.cells #[.int .u8 u.hd.s, .int .u8 u.hd.m, .int .u8 u.hd.h, .int .u16 u.hd.d, .bool u.hd.ht, .bool u.hd.cy] 34)
    generalize ((w10.alloc (.cells #[.int .i64 u.mp.k, .bool u.mp.o, .int .u8 u.mp.l, .int .u8 u.mp.h, .int .u8 u.mp.r, .bool u.mp.md] 32)).alloc (.cells #[.int .u8 u.lv.s, .int .u8 u.lv.m, .int .u8 u.lv.h, .int .u16 u.lv.d, .bool u.lv.ht, .bool u.lv.cy] 34)).alloc (.cells #[.int .u8 u.hd.s, .int .u8 u.hd.m, .int .u8 u.hd.h, .int .u16 u.hd.d, .bool u.hd.ht, .bool u.hd.cy] 34) = w11 at b0 b1 b2 hb ⊢
    have CA_ := Aside0.mk (CA.out.below hb)
    have CD_ := Aside0.mk (CD.out.below hb)
    have HB4_ := Aside0.mk (below_step HB4.out hb)
    have LB_ := Aside0.mk (Nat.lt_of_lt_of_le LB.out hb.size)
    have LR_ := Aside0.mk (Nat.lt_of_lt_of_le LR.out hb.size)
    have MB_ := Aside0.mk (Nat.lt_of_lt_of_le MB.out hb.size)
    have MR_ := Aside0.mk (Nat.lt_of_lt_of_le MR.out hb.size)
    have HH_ := Aside0.mk (HH.out.below hb)
    have B1_ := Aside0.mk (blk_below B1.out hb)
    have B2_ := Aside0.mk (blk_below B2.out hb)
    have B3_ := Aside0.mk (blk_below B3.out hb)
    clear CA CD HB4 LB LR MB MR HH B1 B2 B3
    have CA := CA_
    have CD := CD_
    have HB4 := HB4_
    have LB := LB_
    have LR := LR_
    have MB := MB_
    have MR := MR_
    have HH := HH_
    have B1 := B1_
    have B2 := B2_
    have B3 := B3_
    clear CA_ CD_ HB4_ LB_ LR_ MB_ MR_ HH_ B1_ B2_ B3_
    clear hb
    have B4 := Aside0.mk (b0)
    have B5 := Aside0.mk (b1)
    have B6 := Aside0.mk (b2)
    clear b0 b1 b2
    refine (head_bt CA.out false HBT.out).mono ?_
    rintro e' w12 ⟨rfl, hb⟩
    have CA_ := Aside0.mk (CA.out.below hb)
    have CD_ := Aside0.mk (CD.out.below hb)
    have HB4_ := Aside0.mk (below_step HB4.out hb)
    have LB_ := Aside0.mk (Nat.lt_of_lt_of_le LB.out hb.size)
    have LR_ := Aside0.mk (Nat.lt_of_lt_of_le LR.out hb.size)
    have MB_ := Aside0.mk (Nat.lt_of_lt_of_le MB.out hb.size)
    have MR_ := Aside0.mk (Nat.lt_of_lt_of_le MR.out hb.size)
    have HH_ := Aside0.mk (HH.out.below hb)
    have B1_ := Aside0.mk (blk_below B1.out hb)
    have B2_ := Aside0.mk (blk_below B2.out hb)
    have B3_ := Aside0.mk (blk_below B3.out hb)
    have B4_ := Aside0.mk (blk_below B4.out hb)
    have B5_ := Aside0.mk (blk_below B5.out hb)
    have B6_ := Aside0.mk (blk_below B6.out hb)
    clear CA CD HB4 LB LR MB MR HH B1 B2 B3 B4 B5 B6
    have CA := CA_
    have CD := CD_
    have HB4 := HB4_
    have LB := LB_
    have LR := LR_
    have MB := MB_
    have MR := MR_
    have HH := HH_
    have B1 := B1_
    have B2 := B2_
    have B3 := B3_
    have B4 := B4_
    have B5 := B5_
    have B6 := B6_
    clear CA_ CD_ HB4_ LB_ LR_ MB_ MR_ HH_ B1_ B2_ B3_ B4_ B5_ B6_
    clear hb
    have hfl := field_bt
    go_wp2
    go_returns
    exact ⟨rfl, HB4.out⟩
  | true =>
    obtain ⟨q1, q2, q3, q4, q5⟩ := Pure.given_back NM.out ZS.out ZT.out KS.out.1 KS.out.2 hbt
    rw [← HU.out] at q2 q3 q4 q5
    have q6 : u.mp = t.mp := by rw [HU.out]; exact (load_keeps t s.saveL).2.2.2
    have Q2 := Aside0.mk q2
    have Q3 := Aside0.mk q3
    have Q4 := Aside0.mk q4
    have Q5 := Aside0.mk q5
    have Q6 := Aside0.mk q6
    have HBT := Aside0.mk hbt
    rw [q1]
    clear q1 q2 q3 q4 q5 q6 hbt
    go_wp2_with fail
    refine (state_as CD.out t.mp s.lv s.hd Q6.out Q2.out Q3.out).mono ?_
    rintro e' w10 ⟨rfl, hb⟩
    have CA_ := Aside0.mk (CA.out.below hb)
    have CD_ := Aside0.mk (CD.out.below hb)
    have HB4_ := Aside0.mk (below_step HB4.out hb)
    have LB_ := Aside0.mk (Nat.lt_of_lt_of_le LB.out hb.size)
    have LR_ := Aside0.mk (Nat.lt_of_lt_of_le LR.out hb.size)
    have MB_ := Aside0.mk (Nat.lt_of_lt_of_le MB.out hb.size)
    have MR_ := Aside0.mk (Nat.lt_of_lt_of_le MR.out hb.size)
    have HH_ := Aside0.mk (HH.out.below hb)
    have B1_ := Aside0.mk (blk_below B1.out hb)
    have B2_ := Aside0.mk (blk_below B2.out hb)
    have B3_ := Aside0.mk (blk_below B3.out hb)
    clear CA CD HB4 LB LR MB MR HH B1 B2 B3
    have CA := CA_
    have CD := CD_
    have HB4 := HB4_
    have LB := LB_
    have LR := LR_
    have MB := MB_
    have MR := MR_
    have HH := HH_
    have B1 := B1_
    have B2 := B2_
    have B3 := B3_
    clear CA_ CD_ HB4_ LB_ LR_ MB_ MR_ HH_ B1_ B2_ B3_
    clear hb
    have P5 := Aside0.mk (show a.b < w10.heap.size ∧ a.gr < w10.heap.size from ⟨LB.out, LR.out⟩)
    have P6 := Aside0.mk (show d.b < w10.heap.size ∧ d.gr < w10.heap.size from ⟨MB.out, MR.out⟩)
    go_wp2_with fail
    have b0 := blk_alloc (blk_alloc (blk_new w10 (.cells #[.int .i64 t.mp.k, .bool t.mp.o, .int .u8 t.mp.l, .int .u8 t.mp.h, .int .u8 t.mp.r, .bool t.mp.md] 32)) (.cells #[.int .u8 s.lv.s, .int .u8 s.lv.m, .int .u8 s.lv.h, .int .u16 s.lv.d, .bool s.lv.ht, .bool s.lv.cy] 34)) (.cells #[.int .u8 s.hd.s, .int .u8 s.hd.m, .int .u8 s.hd.h, .int .u16 s.hd.d, .bool s.hd.ht, .bool s.hd.cy] 34)
    have b1 := blk_alloc (blk_at2 w10 (.cells #[.int .i64 t.mp.k, .bool t.mp.o, .int .u8 t.mp.l, .int .u8 t.mp.h, .int .u8 t.mp.r, .bool t.mp.md] 32) (.cells #[.int .u8 s.lv.s, .int .u8 s.lv.m, .int .u8 s.lv.h, .int .u16 s.lv.d, .bool s.lv.ht, .bool s.lv.cy] 34)) (.cells #[.int .u8 s.hd.s, .int .u8 s.hd.m, .int .u8 s.hd.h, .int .u16 s.hd.d, .bool s.hd.ht, .bool s.hd.cy] 34)
    have b2 := blk_at3 w10 (.cells #[.int .i64 t.mp.k, .bool t.mp.o, .int .u8 t.mp.l, .int .u8 t.mp.h, .int .u8 t.mp.r, .bool t.mp.md] 32) (.cells #[.int .u8 s.lv.s, .int .u8 s.lv.m, .int .u8 s.lv.h, .int .u16 s.lv.d, .bool s.lv.ht, .bool s.lv.cy] 34) (.cells #[.int .u8 s.hd.s, .int .u8 s.hd.m, .int .u8 s.hd.h, .int .u16 s.hd.d, .bool s.hd.ht, .bool s.hd.cy] 34)
    have hb := below_alloc (below_alloc (below_alloc (Below.refl w10.heap.size w10) (.cells #[.int .i64 t.mp.k, .bool t.mp.o, .int .u8 t.mp.l, .int .u8 t.mp.h, .int .u8 t.mp.r, .bool t.mp.md] 32)) (.cells #[.int .u8 s.lv.s, .int .u8 s.lv.m, .int .u8 s.lv.h, .int .u16 s.lv.d, .bool s.lv.ht, .bool s.lv.cy] 34)) (.cells #[.int .u8 s.hd.s, .int .u8 s.hd.m, .int .u8 s.hd.h, .int .u16 s.hd.d, .bool s.hd.ht, .bool s.hd.cy] 34)
    generalize ((w10.alloc (.cells #[.int .i64 t.mp.k, .bool t.mp.o, .int .u8 t.mp.l, .int .u8 t.mp.h, .int .u8 t.mp.r, .bool t.mp.md] 32)).alloc (.cells #[.int .u8 s.lv.s, .int .u8 s.lv.m, .int .u8 s.lv.h, .int .u16 s.lv.d, .bool s.lv.ht, .bool s.lv.cy] 34)).alloc (.cells #[.int .u8 s.hd.s, .int .u8 s.hd.m, .int .u8 s.hd.h, .int .u16 s.hd.d, .bool s.hd.ht, .bool s.hd.cy] 34) = w11 at b0 b1 b2 hb ⊢
    have CA_ := Aside0.mk (CA.out.below hb)
    have CD_ := Aside0.mk (CD.out.below hb)
    have HB4_ := Aside0.mk (below_step HB4.out hb)
    have LB_ := Aside0.mk (Nat.lt_of_lt_of_le LB.out hb.size)
    have LR_ := Aside0.mk (Nat.lt_of_lt_of_le LR.out hb.size)
    have MB_ := Aside0.mk (Nat.lt_of_lt_of_le MB.out hb.size)
    have MR_ := Aside0.mk (Nat.lt_of_lt_of_le MR.out hb.size)
    have HH_ := Aside0.mk (HH.out.below hb)
    have B1_ := Aside0.mk (blk_below B1.out hb)
    have B2_ := Aside0.mk (blk_below B2.out hb)
    have B3_ := Aside0.mk (blk_below B3.out hb)
    clear CA CD HB4 LB LR MB MR HH B1 B2 B3
    have CA := CA_
    have CD := CD_
    have HB4 := HB4_
    have LB := LB_
    have LR := LR_
    have MB := MB_
    have MR := MR_
    have HH := HH_
    have B1 := B1_
    have B2 := B2_
    have B3 := B3_
    clear CA_ CD_ HB4_ LB_ LR_ MB_ MR_ HH_ B1_ B2_ B3_
    clear hb
    have B4 := Aside0.mk (b0)
    have B5 := Aside0.mk (b1)
    have B6 := Aside0.mk (b2)
    clear b0 b1 b2
    refine (head_bt CA.out true HBT.out).mono ?_
    rintro e' w12 ⟨rfl, hb⟩
    have CA_ := Aside0.mk (CA.out.below hb)
    have CD_ := Aside0.mk (CD.out.below hb)
    have HB4_ := Aside0.mk (below_step HB4.out hb)
    have LB_ := Aside0.mk (Nat.lt_of_lt_of_le LB.out hb.size)
    have LR_ := Aside0.mk (Nat.lt_of_lt_of_le LR.out hb.size)
    have MB_ := Aside0.mk (Nat.lt_of_lt_of_le MB.out hb.size)
    have MR_ := Aside0.mk (Nat.lt_of_lt_of_le MR.out hb.size)
    have HH_ := Aside0.mk (HH.out.below hb)
    have B1_ := Aside0.mk (blk_below B1.out hb)
    have B2_ := Aside0.mk (blk_below B2.out hb)
    have B3_ := Aside0.mk (blk_below B3.out hb)
    have B4_ := Aside0.mk (blk_below B4.out hb)
    have B5_ := Aside0.mk (blk_below B5.out hb)
    have B6_ := Aside0.mk (blk_below B6.out hb)
    clear CA CD HB4 LB LR MB MR HH B1 B2 B3 B4 B5 B6
    have CA := CA_
    have CD := CD_
    have HB4 := HB4_
    have LB := LB_
    have LR := LR_
    have MB := MB_
    have MR := MR_
    have HH := HH_
    have B1 := B1_
    have B2 := B2_
    have B3 := B3_
    have B4 := B4_
    have B5 := B5_
    have B6 := B6_
    clear CA_ CD_ HB4_ LB_ LR_ MB_ MR_ HH_ B1_ B2_ B3_ B4_ B5_ B6_
    clear hb
    have hfl := field_bt
    go_wp2_with fail
    clear hfl
    refine (state_as CA.out s.mp s.lv s.hd rfl rfl rfl).mono ?_
    rintro e' w13 ⟨rfl, hb⟩
    have CA_ := Aside0.mk (CA.out.below hb)
    have CD_ := Aside0.mk (CD.out.below hb)
    have HB4_ := Aside0.mk (below_step HB4.out hb)
    have LB_ := Aside0.mk (Nat.lt_of_lt_of_le LB.out hb.size)
    have LR_ := Aside0.mk (Nat.lt_of_lt_of_le LR.out hb.size)
    have MB_ := Aside0.mk (Nat.lt_of_lt_of_le MB.out hb.size)
    have MR_ := Aside0.mk (Nat.lt_of_lt_of_le MR.out hb.size)
    have HH_ := Aside0.mk (HH.out.below hb)
    have B1_ := Aside0.mk (blk_below B1.out hb)
    have B2_ := Aside0.mk (blk_below B2.out hb)
    have B3_ := Aside0.mk (blk_below B3.out hb)
    have B4_ := Aside0.mk (blk_below B4.out hb)
    have B5_ := Aside0.mk (blk_below B5.out hb)
    have B6_ := Aside0.mk (blk_below B6.out hb)
    clear CA CD HB4 LB LR MB MR HH B1 B2 B3 B4 B5 B6
    have CA := CA_
    have CD := CD_
    have HB4 := HB4_
    have LB := LB_
    have LR := LR_
    have MB := MB_
    have MR := MR_
    have HH := HH_
    have B1 := B1_
    have B2 := B2_
    have B3 := B3_
    have B4 := B4_
    have B5 := B5_
    have B6 := B6_
    clear CA_ CD_ HB4_ LB_ LR_ MB_ MR_ HH_ B1_ B2_ B3_ B4_ B5_ B6_
    clear hb
    have P7 := Aside0.mk (show a.b < w13.heap.size ∧ a.gr < w13.heap.size from ⟨LB.out, LR.out⟩)
    have P8 := Aside0.mk (show d.b < w13.heap.size ∧ d.gr < w13.heap.size from ⟨MB.out, MR.out⟩)
    go_wp2_with fail
    have b0 := blk_alloc (blk_alloc (blk_new w13 (.cells #[.int .i64 s.mp.k, .bool s.mp.o, .int .u8 s.mp.l, .int .u8 s.mp.h, .int .u8 s.mp.r, .bool s.mp.md] 32)) (.cells #[.int .u8 s.lv.s, .int .u8 s.lv.m, .int .u8 s.lv.h, .int .u16 s.lv.d, .bool s.lv.ht, .bool s.lv.cy] 34)) (.cells #[.int .u8 s.hd.s, .int .u8 s.hd.m, .int .u8 s.hd.h, .int .u16 s.hd.d, .bool s.hd.ht, .bool s.hd.cy] 34)
    have b1 := blk_alloc (blk_at2 w13 (.cells #[.int .i64 s.mp.k, .bool s.mp.o, .int .u8 s.mp.l, .int .u8 s.mp.h, .int .u8 s.mp.r, .bool s.mp.md] 32) (.cells #[.int .u8 s.lv.s, .int .u8 s.lv.m, .int .u8 s.lv.h, .int .u16 s.lv.d, .bool s.lv.ht, .bool s.lv.cy] 34)) (.cells #[.int .u8 s.hd.s, .int .u8 s.hd.m, .int .u8 s.hd.h, .int .u16 s.hd.d, .bool s.hd.ht, .bool s.hd.cy] 34)
    have b2 := blk_at3 w13 (.cells #[.int .i64 s.mp.k, .bool s.mp.o, .int .u8 s.mp.l, .int .u8 s.mp.h, .int .u8 s.mp.r, .bool s.mp.md] 32) (.cells #[.int .u8 s.lv.s, .int .u8 s.lv.m, .int .u8 s.lv.h, .int .u16 s.lv.d, .bool s.lv.ht, .bool s.lv.cy] 34) (.cells #[.int .u8 s.hd.s, .int .u8 s.hd.m, .int .u8 s.hd.h, .int .u16 s.hd.d, .bool s.hd.ht, .bool s.hd.cy] 34)
    have hb := below_alloc (below_alloc (below_alloc (Below.refl w13.heap.size w13) (.cells #[.int .i64 s.mp.k, .bool s.mp.o, .int .u8 s.mp.l, .int .u8 s.mp.h, .int .u8 s.mp.r, .bool s.mp.md] 32)) (.cells #[.int .u8 s.lv.s, .int .u8 s.lv.m, .int .u8 s.lv.h, .int .u16 s.lv.d, .bool s.lv.ht, .bool s.lv.cy] 34)) (.cells #[.int .u8 s.hd.s, .int .u8 s.hd.m, .int .u8 s.hd.h, .int .u16 s.hd.d, .bool s.hd.ht, .bool s.hd.cy] 34)
    generalize ((w13.alloc (.cells #[.int .i64 s.mp.k, .bool s.mp.o, .int .u8 s.mp.l, .int .u8 s.mp.h, .int .u8 s.mp.r, .bool s.mp.md] 32)).alloc (.cells #[.int .u8 s.lv.s, .int .u8 s.lv.m, .int .u8 s.lv.h, .int .u16 s.lv.d, .bool s.lv.ht, .bool s.lv.cy] 34)).alloc (.cells #[.int .u8 s.hd.s, .int .u8 s.hd.m, .int .u8 s.hd.h, .int .u16 s.hd.d, .bool s.hd.ht, .bool s.hd.cy] 34) = w14 at b0 b1 b2 hb ⊢
    have CA_ := Aside0.mk (CA.out.below hb)
    have CD_ := Aside0.mk (CD.out.below hb)
    have HB4_ := Aside0.mk (below_step HB4.out hb)
    have LB_ := Aside0.mk (Nat.lt_of_lt_of_le LB.out hb.size)
    have LR_ := Aside0.mk (Nat.lt_of_lt_of_le LR.out hb.size)
    have MB_ := Aside0.mk (Nat.lt_of_lt_of_le MB.out hb.size)
    have MR_ := Aside0.mk (Nat.lt_of_lt_of_le MR.out hb.size)
    have HH_ := Aside0.mk (HH.out.below hb)
    have B1_ := Aside0.mk (blk_below B1.out hb)
    have B2_ := Aside0.mk (blk_below B2.out hb)
    have B3_ := Aside0.mk (blk_below B3.out hb)
    have B4_ := Aside0.mk (blk_below B4.out hb)
    have B5_ := Aside0.mk (blk_below B5.out hb)
    have B6_ := Aside0.mk (blk_below B6.out hb)
    clear CA CD HB4 LB LR MB MR HH B1 B2 B3 B4 B5 B6
    have CA := CA_
    have CD := CD_
    have HB4 := HB4_
    have LB := LB_
    have LR := LR_
    have MB := MB_
    have MR := MR_
    have HH := HH_
    have B1 := B1_
    have B2 := B2_
    have B3 := B3_
    have B4 := B4_
    have B5 := B5_
    have B6 := B6_
    clear CA_ CD_ HB4_ LB_ LR_ MB_ MR_ HH_ B1_ B2_ B3_ B4_ B5_ B6_
    clear hb
    have B7 := Aside0.mk (b0)
    have B8 := Aside0.mk (b1)
    have B9 := Aside0.mk (b2)
    clear b0 b1 b2
    have HD_ := Aside0.mk (below_drew1 (Below.refl w14.heap.size w14))
    refine start_ (n := 38) (S := fun w' => w'.cell? ⟨w10.heap.size, 0, none⟩ = some (.int .i64 t.mp.k) ∧ w'.cell? ⟨w10.heap.size, 1, none⟩ = some (.bool t.mp.o) ∧ w'.cell? ⟨w10.heap.size, 2, none⟩ = some (.int .u8 t.mp.l) ∧ w'.cell? ⟨w10.heap.size, 3, none⟩ = some (.int .u8 t.mp.h) ∧ w'.cell? ⟨w10.heap.size, 4, none⟩ = some (.int .u8 t.mp.r) ∧ w'.cell? ⟨w10.heap.size, 5, none⟩ = some (.bool t.mp.md) ∧ w'.cell? ⟨w7.heap.size, 0, none⟩ = some (.int .i64 t.mp.k) ∧ w'.cell? ⟨w7.heap.size, 1, none⟩ = some (.bool t.mp.o) ∧ w'.cell? ⟨w7.heap.size, 2, none⟩ = some (.int .u8 t.mp.l) ∧ w'.cell? ⟨w7.heap.size, 3, none⟩ = some (.int .u8 t.mp.h) ∧ w'.cell? ⟨w7.heap.size, 4, none⟩ = some (.int .u8 t.mp.r) ∧ w'.cell? ⟨w7.heap.size, 5, none⟩ = some (.bool t.mp.md) ∧ w'.cell? ⟨w10.heap.size + 1, 0, none⟩ = some (.int .u8 s.lv.s) ∧ w'.cell? ⟨w10.heap.size + 1, 1, none⟩ = some (.int .u8 s.lv.m) ∧ w'.cell? ⟨w10.heap.size + 1, 2, none⟩ = some (.int .u8 s.lv.h) ∧ w'.cell? ⟨w10.heap.size + 1, 3, none⟩ = some (.int .u16 s.lv.d) ∧ w'.cell? ⟨w10.heap.size + 1, 4, none⟩ = some (.bool s.lv.ht) ∧ w'.cell? ⟨w10.heap.size + 1, 5, none⟩ = some (.bool s.lv.cy) ∧ w'.cell? ⟨w13.heap.size + 1, 0, none⟩ = some (.int .u8 s.lv.s) ∧ w'.cell? ⟨w13.heap.size + 1, 1, none⟩ = some (.int .u8 s.lv.m) ∧ w'.cell? ⟨w13.heap.size + 1, 2, none⟩ = some (.int .u8 s.lv.h) ∧ w'.cell? ⟨w13.heap.size + 1, 3, none⟩ = some (.int .u16 s.lv.d) ∧ w'.cell? ⟨w13.heap.size + 1, 4, none⟩ = some (.bool s.lv.ht) ∧ w'.cell? ⟨w13.heap.size + 1, 5, none⟩ = some (.bool s.lv.cy) ∧ w'.cell? ⟨w10.heap.size + 2, 0, none⟩ = some (.int .u8 s.hd.s) ∧ w'.cell? ⟨w10.heap.size + 2, 1, none⟩ = some (.int .u8 s.hd.m) ∧ w'.cell? ⟨w10.heap.size + 2, 2, none⟩ = some (.int .u8 s.hd.h) ∧ w'.cell? ⟨w10.heap.size + 2, 3, none⟩ = some (.int .u16 s.hd.d) ∧ w'.cell? ⟨w10.heap.size + 2, 4, none⟩ = some (.bool s.hd.ht) ∧ w'.cell? ⟨w10.heap.size + 2, 5, none⟩ = some (.bool s.hd.cy) ∧ w'.cell? ⟨w13.heap.size + 2, 0, none⟩ = some (.int .u8 s.hd.s) ∧ w'.cell? ⟨w13.heap.size + 2, 1, none⟩ = some (.int .u8 s.hd.m) ∧ w'.cell? ⟨w13.heap.size + 2, 2, none⟩ = some (.int .u8 s.hd.h) ∧ w'.cell? ⟨w13.heap.size + 2, 3, none⟩ = some (.int .u16 s.hd.d) ∧ w'.cell? ⟨w13.heap.size + 2, 4, none⟩ = some (.bool s.hd.ht) ∧ w'.cell? ⟨w13.heap.size + 2, 5, none⟩ = some (.bool s.hd.cy) ∧ (convert 22 9 (.slice A6 s.saveL.length c6)).run Try.prog w' = .ok (.string (strOfNums s.saveL)) w') (ds := []) #[false, false, false, false, false, false, false, false, false, false, false, false, false, false, false, false, false, false, false, false, false, false, false, false, false, false, false, false, false, false, false, false, false, false, false, false, false, false] (by kernel_rfl) rfl rfl ⟨(blk_cell (blk_below B4.out HD_.out) 0).trans rfl, (blk_cell (blk_below B4.out HD_.out) 1).trans rfl, (blk_cell (blk_below B4.out HD_.out) 2).trans rfl, (blk_cell (blk_below B4.out HD_.out) 3).trans rfl, (blk_cell (blk_below B4.out HD_.out) 4).trans rfl, (blk_cell (blk_below B4.out HD_.out) 5).trans rfl, (blk_cell (blk_below B1.out HD_.out) 0).trans rfl, (blk_cell (blk_below B1.out HD_.out) 1).trans rfl, (blk_cell (blk_below B1.out HD_.out) 2).trans rfl, (blk_cell (blk_below B1.out HD_.out) 3).trans rfl, (blk_cell (blk_below B1.out HD_.out) 4).trans rfl, (blk_cell (blk_below B1.out HD_.out) 5).trans rfl, (blk_cell (blk_below B5.out HD_.out) 0).trans rfl, (blk_cell (blk_below B5.out HD_.out) 1).trans rfl, (blk_cell (blk_below B5.out HD_.out) 2).trans rfl, (blk_cell (blk_below B5.out HD_.out) 3).trans rfl, (blk_cell (blk_below B5.out HD_.out) 4).trans rfl, (blk_cell (blk_below B5.out HD_.out) 5).trans rfl, (blk_cell (blk_below B8.out HD_.out) 0).trans rfl, (blk_cell (blk_below B8.out HD_.out) 1).trans rfl, (blk_cell (blk_below B8.out HD_.out) 2).trans rfl, (blk_cell (blk_below B8.out HD_.out) 3).trans rfl, (blk_cell (blk_below B8.out HD_.out) 4).trans rfl, (blk_cell (blk_below B8.out HD_.out) 5).trans rfl, (blk_cell (blk_below B6.out HD_.out) 0).trans rfl, (blk_cell (blk_below B6.out HD_.out) 1).trans rfl, (blk_cell (blk_below B6.out HD_.out) 2).trans rfl, (blk_cell (blk_below B6.out HD_.out) 3).trans rfl, (blk_cell (blk_below B6.out HD_.out) 4).trans rfl, (blk_cell (blk_below B6.out HD_.out) 5).trans rfl, (blk_cell (blk_below B9.out HD_.out) 0).trans rfl, (blk_cell (blk_below B9.out HD_.out) 1).trans rfl, (blk_cell (blk_below B9.out HD_.out) 2).trans rfl, (blk_cell (blk_below B9.out HD_.out) 3).trans rfl, (blk_cell (blk_below B9.out HD_.out) 4).trans rfl, (blk_cell (blk_below B9.out HD_.out) 5).trans rfl, (HH.out.below HD_.out).text⟩ (fun hHeld => ?_)
    refine with_tabW back15.tab back15.bits (fun HT_ HW_ => ?_)
    refine pure_ (i := 0) (N := some 91) (v := ?_) (a' := ?_) #[true, false, false, false, false, false, false, false, false, false, false, false, false, false, false, false, false, false, false, false, false, false, false, false, false, false, false, false, false, false, false, false, false, false, false, false, false, false] rfl rfl (any_of HT_.out (by kernel_rfl)) (fun _ _ _ h => h) (Or.inl ⟨by rfl, ?_⟩) ?_ ?_
    rotate_left
    · intro w'
      go_simp
      with_reducible rfl
    rotate_left
    · simp only [Act.put, List.setIfInBounds_toArray, List.set_cons_zero, List.set_cons_succ, i64_w, i32_w]
      rfl
    refine pure_ (i := 1) (N := some 92) (v := ?_) (a' := ?_) #[true, true, false, false, false, false, false, false, false, false, false, false, false, false, false, false, false, false, false, false, false, false, false, false, false, false, false, false, false, false, false, false, false, false, false, false, false, false] rfl rfl (any_of HT_.out (by kernel_rfl)) (fun _ _ _ h => h) (Or.inl ⟨by rfl, ?_⟩) ?_ ?_
    rotate_left
    · intro w'
      go_simp
      with_reducible rfl
    rotate_left
    · simp only [Act.put, List.setIfInBounds_toArray, List.set_cons_zero, List.set_cons_succ, i64_w, i32_w]
      rfl
    refine pure_ (i := 2) (N := some 93) (v := ?_) (a' := ?_) #[true, true, true, false, false, false, false, false, false, false, false, false, false, false, false, false, false, false, false, false, false, false, false, false, false, false, false, false, false, false, false, false, false, false, false, false, false, false] rfl rfl (any_of HT_.out (by kernel_rfl)) (fun _ _ _ h => h) (Or.inl ⟨by rfl, ?_⟩) ?_ ?_
    rotate_left
    · intro w'
      go_simp
      with_reducible rfl
    rotate_left
    · simp only [Act.put, List.setIfInBounds_toArray, List.set_cons_zero, List.set_cons_succ, i64_w, i32_w]
      rfl
    refine pure_ (i := 3) (N := some 94) (v := ?_) (a' := ?_) #[true, true, true, true, false, false, false, false, false, false, false, false, false, false, false, false, false, false, false, false, false, false, false, false, false, false, false, false, false, false, false, false, false, false, false, false, false, false] rfl rfl (any_of HT_.out (by kernel_rfl)) (fun _ _ _ h => h) (Or.inl ⟨by rfl, ?_⟩) ?_ ?_
    rotate_left
    · intro w'
      go_simp
      with_reducible rfl
    rotate_left
    · simp only [Act.put, List.setIfInBounds_toArray, List.set_cons_zero, List.set_cons_succ, i64_w, i32_w]
      rfl
    refine pure_ (i := 4) (N := some 95) (v := ?_) (a' := ?_) #[true, true, true, true, true, false, false, false, false, false, false, false, false, false, false, false, false, false, false, false, false, false, false, false, false, false, false, false, false, false, false, false, false, false, false, false, false, false] rfl rfl (any_of HT_.out (by kernel_rfl)) (fun _ _ _ h => h) (Or.inl ⟨by rfl, ?_⟩) ?_ ?_
    rotate_left
    · intro w'
      go_simp
      with_reducible rfl
    rotate_left
    · simp only [Act.put, List.setIfInBounds_toArray, List.set_cons_zero, List.set_cons_succ, i64_w, i32_w]
      rfl
    refine pure_ (i := 5) (N := some 96) (v := ?_) (a' := ?_) #[true, true, true, true, true, true, false, false, false, false, false, false, false, false, false, false, false, false, false, false, false, false, false, false, false, false, false, false, false, false, false, false, false, false, false, false, false, false] rfl rfl (any_of HT_.out (by kernel_rfl)) (fun _ _ _ h => h) (Or.inl ⟨by rfl, ?_⟩) ?_ ?_
    rotate_left
    · intro w'
      go_simp
      with_reducible rfl
    rotate_left
    · simp only [Act.put, List.setIfInBounds_toArray, List.set_cons_zero, List.set_cons_succ, i64_w, i32_w]
      rfl
    refine take_ (i := 6) (N := some 97) (v := ?_) (a' := ?_) #[true, true, true, true, true, true, true, false, false, false, false, false, false, false, false, false, false, false, false, false, false, false, false, false, false, false, false, false, false, false, false, false, false, false, false, false, false, false] rfl rfl (take_ofW HT_.out HW_.out (by kernel_rfl)) (fun _ _ _ h => h) (Or.inl ⟨by rfl, ?_⟩) hHeld ?_ ?_
    rotate_left
    · rintro w' ⟨s0, s1, s2, s3, s4, s5, s6, s7, s8, s9, s10, s11, s12, s13, s14, s15, s16, s17, s18, s19, s20, s21, s22, s23, s24, s25, s26, s27, s28, s29, s30, s31, s32, s33, s34, s35, s36⟩
      go_simp
      with_reducible rfl
    rotate_left
    · simp only [Act.put, List.setIfInBounds_toArray, List.set_cons_zero, List.set_cons_succ, i64_w, i32_w]
      rfl
    refine take_ (i := 7) (N := some 98) (v := ?_) (a' := ?_) #[true, true, true, true, true, true, true, true, false, false, false, false, false, false, false, false, false, false, false, false, false, false, false, false, false, false, false, false, false, false, false, false, false, false, false, false, false, false] rfl rfl (take_ofW HT_.out HW_.out (by kernel_rfl)) (fun _ _ _ h => h) (Or.inl ⟨by rfl, ?_⟩) hHeld ?_ ?_
    rotate_left
    · rintro w' ⟨s0, s1, s2, s3, s4, s5, s6, s7, s8, s9, s10, s11, s12, s13, s14, s15, s16, s17, s18, s19, s20, s21, s22, s23, s24, s25, s26, s27, s28, s29, s30, s31, s32, s33, s34, s35, s36⟩
      go_simp
      with_reducible rfl
    rotate_left
    · simp only [Act.put, List.setIfInBounds_toArray, List.set_cons_zero, List.set_cons_succ, i64_w, i32_w]
      rfl
    refine pure_ (i := 8) (N := some 99) (v := ?_) (a' := ?_) #[true, true, true, true, true, true, true, true, true, false, false, false, false, false, false, false, false, false, false, false, false, false, false, false, false, false, false, false, false, false, false, false, false, false, false, false, false, false] rfl rfl (any_of HT_.out (by kernel_rfl)) (fun _ _ _ h => h) (Or.inl ⟨by rfl, ?_⟩) ?_ ?_
    rotate_left
    · intro w'
      go_simp
      with_reducible rfl
    rotate_left
    · simp only [Act.put, List.setIfInBounds_toArray, List.set_cons_zero, List.set_cons_succ, i64_w, i32_w]
      rfl
    refine pure_ (i := 9) (N := some 100) (v := ?_) (a' := ?_) #[true, true, true, true, true, true, true, true, true, true, false, false, false, false, false, false, false, false, false, false, false, false, false, false, false, false, false, false, false, false, false, false, false, false, false, false, false, false] rfl rfl (any_of HT_.out (by kernel_rfl)) (fun _ _ _ h => h) (Or.inl ⟨by rfl, ?_⟩) ?_ ?_
    rotate_left
    · intro w'
      go_simp
      with_reducible rfl
    rotate_left
    · simp only [Act.put, List.setIfInBounds_toArray, List.set_cons_zero, List.set_cons_succ, i64_w, i32_w]
      rfl
    refine pure_ (i := 10) (N := some 101) (v := ?_) (a' := ?_) #[true, true, true, true, true, true, true, true, true, true, true, false, false, false, false, false, false, false, false, false, false, false, false, false, false, false, false, false, false, false, false, false, false, false, false, false, false, false] rfl rfl (any_of HT_.out (by kernel_rfl)) (fun _ _ _ h => h) (Or.inl ⟨by rfl, ?_⟩) ?_ ?_
    rotate_left
    · intro w'
      go_simp
      with_reducible rfl
    rotate_left
    · simp only [Act.put, List.setIfInBounds_toArray, List.set_cons_zero, List.set_cons_succ, i64_w, i32_w]
      rfl
    refine take_ (i := 11) (N := some 102) (v := ?_) (a' := ?_) #[true, true, true, true, true, true, true, true, true, true, true, true, false, false, false, false, false, false, false, false, false, false, false, false, false, false, false, false, false, false, false, false, false, false, false, false, false, false] rfl rfl (take_ofW HT_.out HW_.out (by kernel_rfl)) (fun _ _ _ h => h) (Or.inl ⟨by rfl, ?_⟩) hHeld ?_ ?_
    rotate_left
    · rintro w' ⟨s0, s1, s2, s3, s4, s5, s6, s7, s8, s9, s10, s11, s12, s13, s14, s15, s16, s17, s18, s19, s20, s21, s22, s23, s24, s25, s26, s27, s28, s29, s30, s31, s32, s33, s34, s35, s36⟩
      go_simp
      with_reducible rfl
    rotate_left
    · simp only [Act.put, List.setIfInBounds_toArray, List.set_cons_zero, List.set_cons_succ, i64_w, i32_w]
      rfl
    refine take_ (i := 12) (N := some 103) (v := ?_) (a' := ?_) #[true, true, true, true, true, true, true, true, true, true, true, true, true, false, false, false, false, false, false, false, false, false, false, false, false, false, false, false, false, false, false, false, false, false, false, false, false, false] rfl rfl (take_ofW HT_.out HW_.out (by kernel_rfl)) (fun _ _ _ h => h) (Or.inl ⟨by rfl, ?_⟩) hHeld ?_ ?_
    rotate_left
    · rintro w' ⟨s0, s1, s2, s3, s4, s5, s6, s7, s8, s9, s10, s11, s12, s13, s14, s15, s16, s17, s18, s19, s20, s21, s22, s23, s24, s25, s26, s27, s28, s29, s30, s31, s32, s33, s34, s35, s36⟩
      go_simp
      with_reducible rfl
    rotate_left
    · simp only [Act.put, List.setIfInBounds_toArray, List.set_cons_zero, List.set_cons_succ, i64_w, i32_w]
      rfl
    refine pure_ (i := 13) (N := some 104) (v := ?_) (a' := ?_) #[true, true, true, true, true, true, true, true, true, true, true, true, true, true, false, false, false, false, false, false, false, false, false, false, false, false, false, false, false, false, false, false, false, false, false, false, false, false] rfl rfl (any_of HT_.out (by kernel_rfl)) (fun _ _ _ h => h) (Or.inl ⟨by rfl, ?_⟩) ?_ ?_
    rotate_left
    · intro w'
      go_simp
      with_reducible rfl
    rotate_left
    · simp only [Act.put, List.setIfInBounds_toArray, List.set_cons_zero, List.set_cons_succ, i64_w, i32_w]
      rfl
    refine pure_ (i := 14) (N := some 105) (v := ?_) (a' := ?_) #[true, true, true, true, true, true, true, true, true, true, true, true, true, true, true, false, false, false, false, false, false, false, false, false, false, false, false, false, false, false, false, false, false, false, false, false, false, false] rfl rfl (any_of HT_.out (by kernel_rfl)) (fun _ _ _ h => h) (Or.inl ⟨by rfl, ?_⟩) ?_ ?_
    rotate_left
    · intro w'
      go_simp
      with_reducible rfl
    rotate_left
    · simp only [Act.put, List.setIfInBounds_toArray, List.set_cons_zero, List.set_cons_succ, i64_w, i32_w]
      rfl
    refine pure_ (i := 15) (N := some 106) (v := ?_) (a' := ?_) #[true, true, true, true, true, true, true, true, true, true, true, true, true, true, true, true, false, false, false, false, false, false, false, false, false, false, false, false, false, false, false, false, false, false, false, false, false, false] rfl rfl (any_of HT_.out (by kernel_rfl)) (fun _ _ _ h => h) (Or.inl ⟨by rfl, ?_⟩) ?_ ?_
    rotate_left
    · intro w'
      go_simp
      with_reducible rfl
    rotate_left
    · simp only [Act.put, List.setIfInBounds_toArray, List.set_cons_zero, List.set_cons_succ, i64_w, i32_w]
      rfl
    refine take_ (i := 16) (N := some 107) (v := ?_) (a' := ?_) #[true, true, true, true, true, true, true, true, true, true, true, true, true, true, true, true, true, false, false, false, false, false, false, false, false, false, false, false, false, false, false, false, false, false, false, false, false, false] rfl rfl (take_ofW HT_.out HW_.out (by kernel_rfl)) (fun _ _ _ h => h) (Or.inl ⟨by rfl, ?_⟩) hHeld ?_ ?_
    rotate_left
    · rintro w' ⟨s0, s1, s2, s3, s4, s5, s6, s7, s8, s9, s10, s11, s12, s13, s14, s15, s16, s17, s18, s19, s20, s21, s22, s23, s24, s25, s26, s27, s28, s29, s30, s31, s32, s33, s34, s35, s36⟩
      go_simp
      with_reducible rfl
    rotate_left
    · simp only [Act.put, List.setIfInBounds_toArray, List.set_cons_zero, List.set_cons_succ, i64_w, i32_w]
      rfl
    refine take_ (i := 17) (N := some 108) (v := ?_) (a' := ?_) #[true, true, true, true, true, true, true, true, true, true, true, true, true, true, true, true, true, true, false, false, false, false, false, false, false, false, false, false, false, false, false, false, false, false, false, false, false, false] rfl rfl (take_ofW HT_.out HW_.out (by kernel_rfl)) (fun _ _ _ h => h) (Or.inl ⟨by rfl, ?_⟩) hHeld ?_ ?_
    rotate_left
    · rintro w' ⟨s0, s1, s2, s3, s4, s5, s6, s7, s8, s9, s10, s11, s12, s13, s14, s15, s16, s17, s18, s19, s20, s21, s22, s23, s24, s25, s26, s27, s28, s29, s30, s31, s32, s33, s34, s35, s36⟩
      go_simp
      with_reducible rfl
    rotate_left
    · simp only [Act.put, List.setIfInBounds_toArray, List.set_cons_zero, List.set_cons_succ, i64_w, i32_w]
      rfl
    refine pure_ (i := 18) (N := some 109) (v := ?_) (a' := ?_) #[true, true, true, true, true, true, true, true, true, true, true, true, true, true, true, true, true, true, true, false, false, false, false, false, false, false, false, false, false, false, false, false, false, false, false, false, false, false] rfl rfl (any_of HT_.out (by kernel_rfl)) (fun _ _ _ h => h) (Or.inl ⟨by rfl, ?_⟩) ?_ ?_
    rotate_left
    · intro w'
      go_simp
      with_reducible rfl
    rotate_left
    · simp only [Act.put, List.setIfInBounds_toArray, List.set_cons_zero, List.set_cons_succ, i64_w, i32_w]
      rfl
    refine pure_ (i := 19) (N := some 110) (v := ?_) (a' := ?_) #[true, true, true, true, true, true, true, true, true, true, true, true, true, true, true, true, true, true, true, true, false, false, false, false, false, false, false, false, false, false, false, false, false, false, false, false, false, false] rfl rfl (any_of HT_.out (by kernel_rfl)) (fun _ _ _ h => h) (Or.inl ⟨by rfl, ?_⟩) ?_ ?_
    rotate_left
    · intro w'
      go_simp
      with_reducible rfl
    rotate_left
    · simp only [Act.put, List.setIfInBounds_toArray, List.set_cons_zero, List.set_cons_succ, i64_w, i32_w]
      rfl
    refine pure_ (i := 20) (N := some 111) (v := ?_) (a' := ?_) #[true, true, true, true, true, true, true, true, true, true, true, true, true, true, true, true, true, true, true, true, true, false, false, false, false, false, false, false, false, false, false, false, false, false, false, false, false, false] rfl rfl (any_of HT_.out (by kernel_rfl)) (fun _ _ _ h => h) (Or.inl ⟨by rfl, ?_⟩) ?_ ?_
    rotate_left
    · intro w'
      go_simp
      with_reducible rfl
    rotate_left
    · simp only [Act.put, List.setIfInBounds_toArray, List.set_cons_zero, List.set_cons_succ, i64_w, i32_w]
      rfl
    refine pure_ (i := 21) (N := some 112) (v := ?_) (a' := ?_) #[true, true, true, true, true, true, true, true, true, true, true, true, true, true, true, true, true, true, true, true, true, true, false, false, false, false, false, false, false, false, false, false, false, false, false, false, false, false] rfl rfl (any_of HT_.out (by kernel_rfl)) (fun _ _ _ h => h) (Or.inl ⟨by rfl, ?_⟩) ?_ ?_
    rotate_left
    · intro w'
      go_simp
      with_reducible rfl
    rotate_left
    · simp only [Act.put, List.setIfInBounds_toArray, List.set_cons_zero, List.set_cons_succ, i64_w, i32_w]
      rfl
    refine pure_ (i := 24) (N := some 115) (v := ?_) (a' := ?_) #[true, true, true, true, true, true, true, true, true, true, true, true, true, true, true, true, true, true, true, true, true, true, false, false, true, false, false, false, false, false, false, false, false, false, false, false, false, false] rfl rfl (any_of HT_.out (by kernel_rfl)) (fun _ _ _ h => h) (Or.inl ⟨by rfl, ?_⟩) ?_ ?_
    rotate_left
    · intro w'
      go_simp
      with_reducible rfl
    rotate_left
    · simp only [Act.put, List.setIfInBounds_toArray, List.set_cons_zero, List.set_cons_succ, i64_w, i32_w]
      rfl
    refine one_ (i := 22) (N := some 113) #[true, true, true, true, true, true, true, true, true, true, true, true, true, true, true, true, true, true, true, true, true, true, true, false, true, false, false, false, false, false, false, false, false, false, false, false, false, false] rfl rfl (one_of HT_.out (by kernel_rfl)) (by decide) (fun K hK => ?_)
    refine goes_ Try.func15 (by kernel_rfl) rfl #[d.p] (by rfl) rfl rfl (by (try simp only [List.map_toArray, List.map_cons, List.map_nil]); first | done | rfl) ?_
    refine (ram_at (CD.out.below HD_.out) OKU.out.r1).mono ?_
    rintro e' wy1 ⟨v0, rfl, hR, hb⟩
    rw [Q4.out] at hR
    obtain ⟨A7, c7, rfl, hH⟩ := held_of_R hR
    have T1 := Aside0.mk hH
    have HX1 := Aside0.mk (below_step HD_.out hb)
    clear hb hR hH
    refine ⟨_, rfl, ?_⟩
    refine hK.out _ _ ⟨(blk_cell (blk_below B4.out HX1.out) 0).trans rfl, (blk_cell (blk_below B4.out HX1.out) 1).trans rfl, (blk_cell (blk_below B4.out HX1.out) 2).trans rfl, (blk_cell (blk_below B4.out HX1.out) 3).trans rfl, (blk_cell (blk_below B4.out HX1.out) 4).trans rfl, (blk_cell (blk_below B4.out HX1.out) 5).trans rfl, (blk_cell (blk_below B1.out HX1.out) 0).trans rfl, (blk_cell (blk_below B1.out HX1.out) 1).trans rfl, (blk_cell (blk_below B1.out HX1.out) 2).trans rfl, (blk_cell (blk_below B1.out HX1.out) 3).trans rfl, (blk_cell (blk_below B1.out HX1.out) 4).trans rfl, (blk_cell (blk_below B1.out HX1.out) 5).trans rfl, (blk_cell (blk_below B5.out HX1.out) 0).trans rfl, (blk_cell (blk_below B5.out HX1.out) 1).trans rfl, (blk_cell (blk_below B5.out HX1.out) 2).trans rfl, (blk_cell (blk_below B5.out HX1.out) 3).trans rfl, (blk_cell (blk_below B5.out HX1.out) 4).trans rfl, (blk_cell (blk_below B5.out HX1.out) 5).trans rfl, (blk_cell (blk_below B8.out HX1.out) 0).trans rfl, (blk_cell (blk_below B8.out HX1.out) 1).trans rfl, (blk_cell (blk_below B8.out HX1.out) 2).trans rfl, (blk_cell (blk_below B8.out HX1.out) 3).trans rfl, (blk_cell (blk_below B8.out HX1.out) 4).trans rfl, (blk_cell (blk_below B8.out HX1.out) 5).trans rfl, (blk_cell (blk_below B6.out HX1.out) 0).trans rfl, (blk_cell (blk_below B6.out HX1.out) 1).trans rfl, (blk_cell (blk_below B6.out HX1.out) 2).trans rfl, (blk_cell (blk_below B6.out HX1.out) 3).trans rfl, (blk_cell (blk_below B6.out HX1.out) 4).trans rfl, (blk_cell (blk_below B6.out HX1.out) 5).trans rfl, (blk_cell (blk_below B9.out HX1.out) 0).trans rfl, (blk_cell (blk_below B9.out HX1.out) 1).trans rfl, (blk_cell (blk_below B9.out HX1.out) 2).trans rfl, (blk_cell (blk_below B9.out HX1.out) 3).trans rfl, (blk_cell (blk_below B9.out HX1.out) 4).trans rfl, (blk_cell (blk_below B9.out HX1.out) 5).trans rfl, (HH.out.below HX1.out).text⟩ (fun hHeld => ?_)
    clear hK K
    refine norm_ (a' := ?_) ?_ ?_
    rotate_left
    · show Act.put _ (some 113) _ = _
      simp only [Act.put, List.setIfInBounds_toArray, List.set_cons_zero, List.set_cons_succ, i64_w, i32_w]
      rfl
    refine join_ (σ := Value) 11 #[true, true, true, true, true, true, true, true, true, true, true, true, true, true, true, true, true, true, true, true, true, true, true, true, true, true, true, false, false, false, false, false, false, false, false, false, false, false] (fun s_ => [(114, .string (strOfNums s.ram)), (116, s_), (117, .string (strOfNums s.ram))]) (fun s_ w_ => Below w14.heap.size w14 w_) ?_ ?_
    rotate_left
    · intro HC_
      refine two_ (i := 23) (j := 25) (Ni := some 114) (Nj := some 116) #[true, true, true, true, true, true, true, true, true, true, true, true, true, true, true, true, true, true, true, true, true, true, true, true, true, false, false, false, false, false, false, false, false, false, false, false, false, false] #[true, true, true, true, true, true, true, true, true, true, true, true, true, true, true, true, true, true, true, true, true, true, true, false, true, true, false, false, false, false, false, false, false, false, false, false, false, false] rfl rfl rfl rfl (two_of HT_.out (by kernel_rfl)) (by decide) (by decide) (fun K hK => ?_) (fun K hK => ?_)
      · have ts_ := T1.out.text
        refine event_step (v := .string (strOfNums s.ram)) (by rfl) (by go_simp; rfl) ?_
        refine hK.out _ _ ⟨(blk_cell (blk_below B4.out HX1.out) 0).trans rfl, (blk_cell (blk_below B4.out HX1.out) 1).trans rfl, (blk_cell (blk_below B4.out HX1.out) 2).trans rfl, (blk_cell (blk_below B4.out HX1.out) 3).trans rfl, (blk_cell (blk_below B4.out HX1.out) 4).trans rfl, (blk_cell (blk_below B4.out HX1.out) 5).trans rfl, (blk_cell (blk_below B1.out HX1.out) 0).trans rfl, (blk_cell (blk_below B1.out HX1.out) 1).trans rfl, (blk_cell (blk_below B1.out HX1.out) 2).trans rfl, (blk_cell (blk_below B1.out HX1.out) 3).trans rfl, (blk_cell (blk_below B1.out HX1.out) 4).trans rfl, (blk_cell (blk_below B1.out HX1.out) 5).trans rfl, (blk_cell (blk_below B5.out HX1.out) 0).trans rfl, (blk_cell (blk_below B5.out HX1.out) 1).trans rfl, (blk_cell (blk_below B5.out HX1.out) 2).trans rfl, (blk_cell (blk_below B5.out HX1.out) 3).trans rfl, (blk_cell (blk_below B5.out HX1.out) 4).trans rfl, (blk_cell (blk_below B5.out HX1.out) 5).trans rfl, (blk_cell (blk_below B8.out HX1.out) 0).trans rfl, (blk_cell (blk_below B8.out HX1.out) 1).trans rfl, (blk_cell (blk_below B8.out HX1.out) 2).trans rfl, (blk_cell (blk_below B8.out HX1.out) 3).trans rfl, (blk_cell (blk_below B8.out HX1.out) 4).trans rfl, (blk_cell (blk_below B8.out HX1.out) 5).trans rfl, (blk_cell (blk_below B6.out HX1.out) 0).trans rfl, (blk_cell (blk_below B6.out HX1.out) 1).trans rfl, (blk_cell (blk_below B6.out HX1.out) 2).trans rfl, (blk_cell (blk_below B6.out HX1.out) 3).trans rfl, (blk_cell (blk_below B6.out HX1.out) 4).trans rfl, (blk_cell (blk_below B6.out HX1.out) 5).trans rfl, (blk_cell (blk_below B9.out HX1.out) 0).trans rfl, (blk_cell (blk_below B9.out HX1.out) 1).trans rfl, (blk_cell (blk_below B9.out HX1.out) 2).trans rfl, (blk_cell (blk_below B9.out HX1.out) 3).trans rfl, (blk_cell (blk_below B9.out HX1.out) 4).trans rfl, (blk_cell (blk_below B9.out HX1.out) 5).trans rfl, (HH.out.below HX1.out).text⟩ (fun hHeld => ?_)
        clear hK K
        refine norm_ (a' := ?_) ?_ ?_
        rotate_left
        · show Act.put _ (some 114) _ = _
          simp only [Act.put, List.setIfInBounds_toArray, List.set_cons_zero, List.set_cons_succ, i64_w, i32_w]
          rfl
        clear ts_
        refine one_ (i := 25) (N := some 116) #[true, true, true, true, true, true, true, true, true, true, true, true, true, true, true, true, true, true, true, true, true, true, true, true, true, true, false, false, false, false, false, false, false, false, false, false, false, false] rfl rfl (one_of HT_.out (by kernel_rfl)) (by decide) (fun K hK => ?_)
        refine goes_ Try.func15 (by kernel_rfl) rfl #[a.p] (by rfl) rfl rfl (by (try simp only [List.map_toArray, List.map_cons, List.map_nil]); first | done | rfl) ?_
        refine (ram_at (CA.out.below HX1.out) OKS.out.r1).mono ?_
        rintro e' wy3 ⟨v0, rfl, hR, hb⟩
        obtain ⟨A8, c8, rfl, hH⟩ := held_of_R hR
        have T2 := Aside0.mk hH
        have HX3 := Aside0.mk (below_step HX1.out hb)
        try (have T1_ := Aside0.mk (T1.out.below hb); clear T1; have T1 := T1_; clear T1_)
        clear hb hR hH
        refine ⟨_, rfl, ?_⟩
        refine hK.out _ _ ⟨(blk_cell (blk_below B4.out HX3.out) 0).trans rfl, (blk_cell (blk_below B4.out HX3.out) 1).trans rfl, (blk_cell (blk_below B4.out HX3.out) 2).trans rfl, (blk_cell (blk_below B4.out HX3.out) 3).trans rfl, (blk_cell (blk_below B4.out HX3.out) 4).trans rfl, (blk_cell (blk_below B4.out HX3.out) 5).trans rfl, (blk_cell (blk_below B1.out HX3.out) 0).trans rfl, (blk_cell (blk_below B1.out HX3.out) 1).trans rfl, (blk_cell (blk_below B1.out HX3.out) 2).trans rfl, (blk_cell (blk_below B1.out HX3.out) 3).trans rfl, (blk_cell (blk_below B1.out HX3.out) 4).trans rfl, (blk_cell (blk_below B1.out HX3.out) 5).trans rfl, (blk_cell (blk_below B5.out HX3.out) 0).trans rfl, (blk_cell (blk_below B5.out HX3.out) 1).trans rfl, (blk_cell (blk_below B5.out HX3.out) 2).trans rfl, (blk_cell (blk_below B5.out HX3.out) 3).trans rfl, (blk_cell (blk_below B5.out HX3.out) 4).trans rfl, (blk_cell (blk_below B5.out HX3.out) 5).trans rfl, (blk_cell (blk_below B8.out HX3.out) 0).trans rfl, (blk_cell (blk_below B8.out HX3.out) 1).trans rfl, (blk_cell (blk_below B8.out HX3.out) 2).trans rfl, (blk_cell (blk_below B8.out HX3.out) 3).trans rfl, (blk_cell (blk_below B8.out HX3.out) 4).trans rfl, (blk_cell (blk_below B8.out HX3.out) 5).trans rfl, (blk_cell (blk_below B6.out HX3.out) 0).trans rfl, (blk_cell (blk_below B6.out HX3.out) 1).trans rfl, (blk_cell (blk_below B6.out HX3.out) 2).trans rfl, (blk_cell (blk_below B6.out HX3.out) 3).trans rfl, (blk_cell (blk_below B6.out HX3.out) 4).trans rfl, (blk_cell (blk_below B6.out HX3.out) 5).trans rfl, (blk_cell (blk_below B9.out HX3.out) 0).trans rfl, (blk_cell (blk_below B9.out HX3.out) 1).trans rfl, (blk_cell (blk_below B9.out HX3.out) 2).trans rfl, (blk_cell (blk_below B9.out HX3.out) 3).trans rfl, (blk_cell (blk_below B9.out HX3.out) 4).trans rfl, (blk_cell (blk_below B9.out HX3.out) 5).trans rfl, (HH.out.below HX3.out).text⟩ (fun hHeld => ?_)
        clear hK K
        refine norm_ (a' := ?_) ?_ ?_
        rotate_left
        · show Act.put _ (some 116) _ = _
          simp only [Act.put, List.setIfInBounds_toArray, List.set_cons_zero, List.set_cons_succ, i64_w, i32_w]
          rfl
        refine one_ (i := 26) (N := some 117) #[true, true, true, true, true, true, true, true, true, true, true, true, true, true, true, true, true, true, true, true, true, true, true, true, true, true, true, false, false, false, false, false, false, false, false, false, false, false] rfl rfl (one_of HT_.out (by kernel_rfl)) (by decide) (fun K hK => ?_)
        have ts_ := T2.out.text
        refine event_step (v := .string (strOfNums s.ram)) (by rfl) (by go_simp; rfl) ?_
        refine hK.out _ _ ⟨(blk_cell (blk_below B4.out HX3.out) 0).trans rfl, (blk_cell (blk_below B4.out HX3.out) 1).trans rfl, (blk_cell (blk_below B4.out HX3.out) 2).trans rfl, (blk_cell (blk_below B4.out HX3.out) 3).trans rfl, (blk_cell (blk_below B4.out HX3.out) 4).trans rfl, (blk_cell (blk_below B4.out HX3.out) 5).trans rfl, (blk_cell (blk_below B1.out HX3.out) 0).trans rfl, (blk_cell (blk_below B1.out HX3.out) 1).trans rfl, (blk_cell (blk_below B1.out HX3.out) 2).trans rfl, (blk_cell (blk_below B1.out HX3.out) 3).trans rfl, (blk_cell (blk_below B1.out HX3.out) 4).trans rfl, (blk_cell (blk_below B1.out HX3.out) 5).trans rfl, (blk_cell (blk_below B5.out HX3.out) 0).trans rfl, (blk_cell (blk_below B5.out HX3.out) 1).trans rfl, (blk_cell (blk_below B5.out HX3.out) 2).trans rfl, (blk_cell (blk_below B5.out HX3.out) 3).trans rfl, (blk_cell (blk_below B5.out HX3.out) 4).trans rfl, (blk_cell (blk_below B5.out HX3.out) 5).trans rfl, (blk_cell (blk_below B8.out HX3.out) 0).trans rfl, (blk_cell (blk_below B8.out HX3.out) 1).trans rfl, (blk_cell (blk_below B8.out HX3.out) 2).trans rfl, (blk_cell (blk_below B8.out HX3.out) 3).trans rfl, (blk_cell (blk_below B8.out HX3.out) 4).trans rfl, (blk_cell (blk_below B8.out HX3.out) 5).trans rfl, (blk_cell (blk_below B6.out HX3.out) 0).trans rfl, (blk_cell (blk_below B6.out HX3.out) 1).trans rfl, (blk_cell (blk_below B6.out HX3.out) 2).trans rfl, (blk_cell (blk_below B6.out HX3.out) 3).trans rfl, (blk_cell (blk_below B6.out HX3.out) 4).trans rfl, (blk_cell (blk_below B6.out HX3.out) 5).trans rfl, (blk_cell (blk_below B9.out HX3.out) 0).trans rfl, (blk_cell (blk_below B9.out HX3.out) 1).trans rfl, (blk_cell (blk_below B9.out HX3.out) 2).trans rfl, (blk_cell (blk_below B9.out HX3.out) 3).trans rfl, (blk_cell (blk_below B9.out HX3.out) 4).trans rfl, (blk_cell (blk_below B9.out HX3.out) 5).trans rfl, (HH.out.below HX3.out).text⟩ (fun hHeld => ?_)
        clear hK K
        refine norm_ (a' := ?_) ?_ ?_
        rotate_left
        · show Act.put _ (some 117) _ = _
          simp only [Act.put, List.setIfInBounds_toArray, List.set_cons_zero, List.set_cons_succ, i64_w, i32_w]
          rfl
        clear ts_
        refine norm_ (a' := putAll _ _) ?_ (HC_ (.slice A8 s.ram.length c8) _ HX3.out)
        simp only [putAll, Act.put, List.setIfInBounds_toArray, List.set_cons_zero, List.set_cons_succ, i64_w, i32_w]
      · refine goes_ Try.func15 (by kernel_rfl) rfl #[a.p] (by rfl) rfl rfl (by (try simp only [List.map_toArray, List.map_cons, List.map_nil]); first | done | rfl) ?_
        refine (ram_at (CA.out.below HX1.out) OKS.out.r1).mono ?_
        rintro e' wy4 ⟨v0, rfl, hR, hb⟩
        obtain ⟨A8, c8, rfl, hH⟩ := held_of_R hR
        have T2 := Aside0.mk hH
        have HX4 := Aside0.mk (below_step HX1.out hb)
        try (have T1_ := Aside0.mk (T1.out.below hb); clear T1; have T1 := T1_; clear T1_)
        clear hb hR hH
        refine ⟨_, rfl, ?_⟩
        refine hK.out _ _ ⟨(blk_cell (blk_below B4.out HX4.out) 0).trans rfl, (blk_cell (blk_below B4.out HX4.out) 1).trans rfl, (blk_cell (blk_below B4.out HX4.out) 2).trans rfl, (blk_cell (blk_below B4.out HX4.out) 3).trans rfl, (blk_cell (blk_below B4.out HX4.out) 4).trans rfl, (blk_cell (blk_below B4.out HX4.out) 5).trans rfl, (blk_cell (blk_below B1.out HX4.out) 0).trans rfl, (blk_cell (blk_below B1.out HX4.out) 1).trans rfl, (blk_cell (blk_below B1.out HX4.out) 2).trans rfl, (blk_cell (blk_below B1.out HX4.out) 3).trans rfl, (blk_cell (blk_below B1.out HX4.out) 4).trans rfl, (blk_cell (blk_below B1.out HX4.out) 5).trans rfl, (blk_cell (blk_below B5.out HX4.out) 0).trans rfl, (blk_cell (blk_below B5.out HX4.out) 1).trans rfl, (blk_cell (blk_below B5.out HX4.out) 2).trans rfl, (blk_cell (blk_below B5.out HX4.out) 3).trans rfl, (blk_cell (blk_below B5.out HX4.out) 4).trans rfl, (blk_cell (blk_below B5.out HX4.out) 5).trans rfl, (blk_cell (blk_below B8.out HX4.out) 0).trans rfl, (blk_cell (blk_below B8.out HX4.out) 1).trans rfl, (blk_cell (blk_below B8.out HX4.out) 2).trans rfl, (blk_cell (blk_below B8.out HX4.out) 3).trans rfl, (blk_cell (blk_below B8.out HX4.out) 4).trans rfl, (blk_cell (blk_below B8.out HX4.out) 5).trans rfl, (blk_cell (blk_below B6.out HX4.out) 0).trans rfl, (blk_cell (blk_below B6.out HX4.out) 1).trans rfl, (blk_cell (blk_below B6.out HX4.out) 2).trans rfl, (blk_cell (blk_below B6.out HX4.out) 3).trans rfl, (blk_cell (blk_below B6.out HX4.out) 4).trans rfl, (blk_cell (blk_below B6.out HX4.out) 5).trans rfl, (blk_cell (blk_below B9.out HX4.out) 0).trans rfl, (blk_cell (blk_below B9.out HX4.out) 1).trans rfl, (blk_cell (blk_below B9.out HX4.out) 2).trans rfl, (blk_cell (blk_below B9.out HX4.out) 3).trans rfl, (blk_cell (blk_below B9.out HX4.out) 4).trans rfl, (blk_cell (blk_below B9.out HX4.out) 5).trans rfl, (HH.out.below HX4.out).text⟩ (fun hHeld => ?_)
        clear hK K
        refine norm_ (a' := ?_) ?_ ?_
        rotate_left
        · show Act.put _ (some 116) _ = _
          simp only [Act.put, List.setIfInBounds_toArray, List.set_cons_zero, List.set_cons_succ, i64_w, i32_w]
          rfl
        refine two_ (i := 23) (j := 26) (Ni := some 114) (Nj := some 117) #[true, true, true, true, true, true, true, true, true, true, true, true, true, true, true, true, true, true, true, true, true, true, true, true, true, true, false, false, false, false, false, false, false, false, false, false, false, false] #[true, true, true, true, true, true, true, true, true, true, true, true, true, true, true, true, true, true, true, true, true, true, true, false, true, true, true, false, false, false, false, false, false, false, false, false, false, false] rfl rfl rfl rfl (two_of HT_.out (by kernel_rfl)) (by decide) (by decide) (fun K hK => ?_) (fun K hK => ?_)
        · have ts_ := T1.out.text
          refine event_step (v := .string (strOfNums s.ram)) (by rfl) (by go_simp; rfl) ?_
          refine hK.out _ _ ⟨(blk_cell (blk_below B4.out HX4.out) 0).trans rfl, (blk_cell (blk_below B4.out HX4.out) 1).trans rfl, (blk_cell (blk_below B4.out HX4.out) 2).trans rfl, (blk_cell (blk_below B4.out HX4.out) 3).trans rfl, (blk_cell (blk_below B4.out HX4.out) 4).trans rfl, (blk_cell (blk_below B4.out HX4.out) 5).trans rfl, (blk_cell (blk_below B1.out HX4.out) 0).trans rfl, (blk_cell (blk_below B1.out HX4.out) 1).trans rfl, (blk_cell (blk_below B1.out HX4.out) 2).trans rfl, (blk_cell (blk_below B1.out HX4.out) 3).trans rfl, (blk_cell (blk_below B1.out HX4.out) 4).trans rfl, (blk_cell (blk_below B1.out HX4.out) 5).trans rfl, (blk_cell (blk_below B5.out HX4.out) 0).trans rfl, (blk_cell (blk_below B5.out HX4.out) 1).trans rfl, (blk_cell (blk_below B5.out HX4.out) 2).trans rfl, (blk_cell (blk_below B5.out HX4.out) 3).trans rfl, (blk_cell (blk_below B5.out HX4.out) 4).trans rfl, (blk_cell (blk_below B5.out HX4.out) 5).trans rfl, (blk_cell (blk_below B8.out HX4.out) 0).trans rfl, (blk_cell (blk_below B8.out HX4.out) 1).trans rfl, (blk_cell (blk_below B8.out HX4.out) 2).trans rfl, (blk_cell (blk_below B8.out HX4.out) 3).trans rfl, (blk_cell (blk_below B8.out HX4.out) 4).trans rfl, (blk_cell (blk_below B8.out HX4.out) 5).trans rfl, (blk_cell (blk_below B6.out HX4.out) 0).trans rfl, (blk_cell (blk_below B6.out HX4.out) 1).trans rfl, (blk_cell (blk_below B6.out HX4.out) 2).trans rfl, (blk_cell (blk_below B6.out HX4.out) 3).trans rfl, (blk_cell (blk_below B6.out HX4.out) 4).trans rfl, (blk_cell (blk_below B6.out HX4.out) 5).trans rfl, (blk_cell (blk_below B9.out HX4.out) 0).trans rfl, (blk_cell (blk_below B9.out HX4.out) 1).trans rfl, (blk_cell (blk_below B9.out HX4.out) 2).trans rfl, (blk_cell (blk_below B9.out HX4.out) 3).trans rfl, (blk_cell (blk_below B9.out HX4.out) 4).trans rfl, (blk_cell (blk_below B9.out HX4.out) 5).trans rfl, (HH.out.below HX4.out).text⟩ (fun hHeld => ?_)
          clear hK K
          refine norm_ (a' := ?_) ?_ ?_
          rotate_left
          · show Act.put _ (some 114) _ = _
            simp only [Act.put, List.setIfInBounds_toArray, List.set_cons_zero, List.set_cons_succ, i64_w, i32_w]
            rfl
          clear ts_
          refine one_ (i := 26) (N := some 117) #[true, true, true, true, true, true, true, true, true, true, true, true, true, true, true, true, true, true, true, true, true, true, true, true, true, true, true, false, false, false, false, false, false, false, false, false, false, false] rfl rfl (one_of HT_.out (by kernel_rfl)) (by decide) (fun K hK => ?_)
          have ts_ := T2.out.text
          refine event_step (v := .string (strOfNums s.ram)) (by rfl) (by go_simp; rfl) ?_
          refine hK.out _ _ ⟨(blk_cell (blk_below B4.out HX4.out) 0).trans rfl, (blk_cell (blk_below B4.out HX4.out) 1).trans rfl, (blk_cell (blk_below B4.out HX4.out) 2).trans rfl, (blk_cell (blk_below B4.out HX4.out) 3).trans rfl, (blk_cell (blk_below B4.out HX4.out) 4).trans rfl, (blk_cell (blk_below B4.out HX4.out) 5).trans rfl, (blk_cell (blk_below B1.out HX4.out) 0).trans rfl, (blk_cell (blk_below B1.out HX4.out) 1).trans rfl, (blk_cell (blk_below B1.out HX4.out) 2).trans rfl, (blk_cell (blk_below B1.out HX4.out) 3).trans rfl, (blk_cell (blk_below B1.out HX4.out) 4).trans rfl, (blk_cell (blk_below B1.out HX4.out) 5).trans rfl, (blk_cell (blk_below B5.out HX4.out) 0).trans rfl, (blk_cell (blk_below B5.out HX4.out) 1).trans rfl, (blk_cell (blk_below B5.out HX4.out) 2).trans rfl, (blk_cell (blk_below B5.out HX4.out) 3).trans rfl, (blk_cell (blk_below B5.out HX4.out) 4).trans rfl, (blk_cell (blk_below B5.out HX4.out) 5).trans rfl, (blk_cell (blk_below B8.out HX4.out) 0).trans rfl, (blk_cell (blk_below B8.out HX4.out) 1).trans rfl, (blk_cell (blk_below B8.out HX4.out) 2).trans rfl, (blk_cell (blk_below B8.out HX4.out) 3).trans rfl, (blk_cell (blk_below B8.out HX4.out) 4).trans rfl, (blk_cell (blk_below B8.out HX4.out) 5).trans rfl, (blk_cell (blk_below B6.out HX4.out) 0).trans rfl, (blk_cell (blk_below B6.out HX4.out) 1).trans rfl, (blk_cell (blk_below B6.out HX4.out) 2).trans rfl, (blk_cell (blk_below B6.out HX4.out) 3).trans rfl, (blk_cell (blk_below B6.out HX4.out) 4).trans rfl, (blk_cell (blk_below B6.out HX4.out) 5).trans rfl, (blk_cell (blk_below B9.out HX4.out) 0).trans rfl, (blk_cell (blk_below B9.out HX4.out) 1).trans rfl, (blk_cell (blk_below B9.out HX4.out) 2).trans rfl, (blk_cell (blk_below B9.out HX4.out) 3).trans rfl, (blk_cell (blk_below B9.out HX4.out) 4).trans rfl, (blk_cell (blk_below B9.out HX4.out) 5).trans rfl, (HH.out.below HX4.out).text⟩ (fun hHeld => ?_)
          clear hK K
          refine norm_ (a' := ?_) ?_ ?_
          rotate_left
          · show Act.put _ (some 117) _ = _
            simp only [Act.put, List.setIfInBounds_toArray, List.set_cons_zero, List.set_cons_succ, i64_w, i32_w]
            rfl
          clear ts_
          refine norm_ (a' := putAll _ _) ?_ (HC_ (.slice A8 s.ram.length c8) _ HX4.out)
          simp only [putAll, Act.put, List.setIfInBounds_toArray, List.set_cons_zero, List.set_cons_succ, i64_w, i32_w]
        · have ts_ := T2.out.text
          refine event_step (v := .string (strOfNums s.ram)) (by rfl) (by go_simp; rfl) ?_
          refine hK.out _ _ ⟨(blk_cell (blk_below B4.out HX4.out) 0).trans rfl, (blk_cell (blk_below B4.out HX4.out) 1).trans rfl, (blk_cell (blk_below B4.out HX4.out) 2).trans rfl, (blk_cell (blk_below B4.out HX4.out) 3).trans rfl, (blk_cell (blk_below B4.out HX4.out) 4).trans rfl, (blk_cell (blk_below B4.out HX4.out) 5).trans rfl, (blk_cell (blk_below B1.out HX4.out) 0).trans rfl, (blk_cell (blk_below B1.out HX4.out) 1).trans rfl, (blk_cell (blk_below B1.out HX4.out) 2).trans rfl, (blk_cell (blk_below B1.out HX4.out) 3).trans rfl, (blk_cell (blk_below B1.out HX4.out) 4).trans rfl, (blk_cell (blk_below B1.out HX4.out) 5).trans rfl, (blk_cell (blk_below B5.out HX4.out) 0).trans rfl, (blk_cell (blk_below B5.out HX4.out) 1).trans rfl, (blk_cell (blk_below B5.out HX4.out) 2).trans rfl, (blk_cell (blk_below B5.out HX4.out) 3).trans rfl, (blk_cell (blk_below B5.out HX4.out) 4).trans rfl, (blk_cell (blk_below B5.out HX4.out) 5).trans rfl, (blk_cell (blk_below B8.out HX4.out) 0).trans rfl, (blk_cell (blk_below B8.out HX4.out) 1).trans rfl, (blk_cell (blk_below B8.out HX4.out) 2).trans rfl, (blk_cell (blk_below B8.out HX4.out) 3).trans rfl, (blk_cell (blk_below B8.out HX4.out) 4).trans rfl, (blk_cell (blk_below B8.out HX4.out) 5).trans rfl, (blk_cell (blk_below B6.out HX4.out) 0).trans rfl, (blk_cell (blk_below B6.out HX4.out) 1).trans rfl, (blk_cell (blk_below B6.out HX4.out) 2).trans rfl, (blk_cell (blk_below B6.out HX4.out) 3).trans rfl, (blk_cell (blk_below B6.out HX4.out) 4).trans rfl, (blk_cell (blk_below B6.out HX4.out) 5).trans rfl, (blk_cell (blk_below B9.out HX4.out) 0).trans rfl, (blk_cell (blk_below B9.out HX4.out) 1).trans rfl, (blk_cell (blk_below B9.out HX4.out) 2).trans rfl, (blk_cell (blk_below B9.out HX4.out) 3).trans rfl, (blk_cell (blk_below B9.out HX4.out) 4).trans rfl, (blk_cell (blk_below B9.out HX4.out) 5).trans rfl, (HH.out.below HX4.out).text⟩ (fun hHeld => ?_)
          clear hK K
          refine norm_ (a' := ?_) ?_ ?_
          rotate_left
          · show Act.put _ (some 117) _ = _
            simp only [Act.put, List.setIfInBounds_toArray, List.set_cons_zero, List.set_cons_succ, i64_w, i32_w]
            rfl
          clear ts_
          refine one_ (i := 23) (N := some 114) #[true, true, true, true, true, true, true, true, true, true, true, true, true, true, true, true, true, true, true, true, true, true, true, true, true, true, true, false, false, false, false, false, false, false, false, false, false, false] rfl rfl (one_of HT_.out (by kernel_rfl)) (by decide) (fun K hK => ?_)
          have ts_ := T1.out.text
          refine event_step (v := .string (strOfNums s.ram)) (by rfl) (by go_simp; rfl) ?_
          refine hK.out _ _ ⟨(blk_cell (blk_below B4.out HX4.out) 0).trans rfl, (blk_cell (blk_below B4.out HX4.out) 1).trans rfl, (blk_cell (blk_below B4.out HX4.out) 2).trans rfl, (blk_cell (blk_below B4.out HX4.out) 3).trans rfl, (blk_cell (blk_below B4.out HX4.out) 4).trans rfl, (blk_cell (blk_below B4.out HX4.out) 5).trans rfl, (blk_cell (blk_below B1.out HX4.out) 0).trans rfl, (blk_cell (blk_below B1.out HX4.out) 1).trans rfl, (blk_cell (blk_below B1.out HX4.out) 2).trans rfl, (blk_cell (blk_below B1.out HX4.out) 3).trans rfl, (blk_cell (blk_below B1.out HX4.out) 4).trans rfl, (blk_cell (blk_below B1.out HX4.out) 5).trans rfl, (blk_cell (blk_below B5.out HX4.out) 0).trans rfl, (blk_cell (blk_below B5.out HX4.out) 1).trans rfl, (blk_cell (blk_below B5.out HX4.out) 2).trans rfl, (blk_cell (blk_below B5.out HX4.out) 3).trans rfl, (blk_cell (blk_below B5.out HX4.out) 4).trans rfl, (blk_cell (blk_below B5.out HX4.out) 5).trans rfl, (blk_cell (blk_below B8.out HX4.out) 0).trans rfl, (blk_cell (blk_below B8.out HX4.out) 1).trans rfl, (blk_cell (blk_below B8.out HX4.out) 2).trans rfl, (blk_cell (blk_below B8.out HX4.out) 3).trans rfl, (blk_cell (blk_below B8.out HX4.out) 4).trans rfl, (blk_cell (blk_below B8.out HX4.out) 5).trans rfl, (blk_cell (blk_below B6.out HX4.out) 0).trans rfl, (blk_cell (blk_below B6.out HX4.out) 1).trans rfl, (blk_cell (blk_below B6.out HX4.out) 2).trans rfl, (blk_cell (blk_below B6.out HX4.out) 3).trans rfl, (blk_cell (blk_below B6.out HX4.out) 4).trans rfl, (blk_cell (blk_below B6.out HX4.out) 5).trans rfl, (blk_cell (blk_below B9.out HX4.out) 0).trans rfl, (blk_cell (blk_below B9.out HX4.out) 1).trans rfl, (blk_cell (blk_below B9.out HX4.out) 2).trans rfl, (blk_cell (blk_below B9.out HX4.out) 3).trans rfl, (blk_cell (blk_below B9.out HX4.out) 4).trans rfl, (blk_cell (blk_below B9.out HX4.out) 5).trans rfl, (HH.out.below HX4.out).text⟩ (fun hHeld => ?_)
          clear hK K
          refine norm_ (a' := ?_) ?_ ?_
          rotate_left
          · show Act.put _ (some 114) _ = _
            simp only [Act.put, List.setIfInBounds_toArray, List.set_cons_zero, List.set_cons_succ, i64_w, i32_w]
            rfl
          clear ts_
          refine norm_ (a' := putAll _ _) ?_ (HC_ (.slice A8 s.ram.length c8) _ HX4.out)
          simp only [putAll, Act.put, List.setIfInBounds_toArray, List.set_cons_zero, List.set_cons_succ, i64_w, i32_w]
    rintro v2_ wj hF_
    have HJ := Aside0.mk hF_
    refine norm_ (a' := ?_) ?_ ?_
    rotate_left
    · simp only [putAll, Act.put, List.setIfInBounds_toArray, List.set_cons_zero, List.set_cons_succ, i64_w, i32_w]
      rfl
    have hHeld : wj.cell? ⟨w10.heap.size, 0, none⟩ = some (.int .i64 t.mp.k) ∧ wj.cell? ⟨w10.heap.size, 1, none⟩ = some (.bool t.mp.o) ∧ wj.cell? ⟨w10.heap.size, 2, none⟩ = some (.int .u8 t.mp.l) ∧ wj.cell? ⟨w10.heap.size, 3, none⟩ = some (.int .u8 t.mp.h) ∧ wj.cell? ⟨w10.heap.size, 4, none⟩ = some (.int .u8 t.mp.r) ∧ wj.cell? ⟨w10.heap.size, 5, none⟩ = some (.bool t.mp.md) ∧ wj.cell? ⟨w7.heap.size, 0, none⟩ = some (.int .i64 t.mp.k) ∧ wj.cell? ⟨w7.heap.size, 1, none⟩ = some (.bool t.mp.o) ∧ wj.cell? ⟨w7.heap.size, 2, none⟩ = some (.int .u8 t.mp.l) ∧ wj.cell? ⟨w7.heap.size, 3, none⟩ = some (.int .u8 t.mp.h) ∧ wj.cell? ⟨w7.heap.size, 4, none⟩ = some (.int .u8 t.mp.r) ∧ wj.cell? ⟨w7.heap.size, 5, none⟩ = some (.bool t.mp.md) ∧ wj.cell? ⟨w10.heap.size + 1, 0, none⟩ = some (.int .u8 s.lv.s) ∧ wj.cell? ⟨w10.heap.size + 1, 1, none⟩ = some (.int .u8 s.lv.m) ∧ wj.cell? ⟨w10.heap.size + 1, 2, none⟩ = some (.int .u8 s.lv.h) ∧ wj.cell? ⟨w10.heap.size + 1, 3, none⟩ = some (.int .u16 s.lv.d) ∧ wj.cell? ⟨w10.heap.size + 1, 4, none⟩ = some (.bool s.lv.ht) ∧ wj.cell? ⟨w10.heap.size + 1, 5, none⟩ = some (.bool s.lv.cy) ∧ wj.cell? ⟨w13.heap.size + 1, 0, none⟩ = some (.int .u8 s.lv.s) ∧ wj.cell? ⟨w13.heap.size + 1, 1, none⟩ = some (.int .u8 s.lv.m) ∧ wj.cell? ⟨w13.heap.size + 1, 2, none⟩ = some (.int .u8 s.lv.h) ∧ wj.cell? ⟨w13.heap.size + 1, 3, none⟩ = some (.int .u16 s.lv.d) ∧ wj.cell? ⟨w13.heap.size + 1, 4, none⟩ = some (.bool s.lv.ht) ∧ wj.cell? ⟨w13.heap.size + 1, 5, none⟩ = some (.bool s.lv.cy) ∧ wj.cell? ⟨w10.heap.size + 2, 0, none⟩ = some (.int .u8 s.hd.s) ∧ wj.cell? ⟨w10.heap.size + 2, 1, none⟩ = some (.int .u8 s.hd.m) ∧ wj.cell? ⟨w10.heap.size + 2, 2, none⟩ = some (.int .u8 s.hd.h) ∧ wj.cell? ⟨w10.heap.size + 2, 3, none⟩ = some (.int .u16 s.hd.d) ∧ wj.cell? ⟨w10.heap.size + 2, 4, none⟩ = some (.bool s.hd.ht) ∧ wj.cell? ⟨w10.heap.size + 2, 5, none⟩ = some (.bool s.hd.cy) ∧ wj.cell? ⟨w13.heap.size + 2, 0, none⟩ = some (.int .u8 s.hd.s) ∧ wj.cell? ⟨w13.heap.size + 2, 1, none⟩ = some (.int .u8 s.hd.m) ∧ wj.cell? ⟨w13.heap.size + 2, 2, none⟩ = some (.int .u8 s.hd.h) ∧ wj.cell? ⟨w13.heap.size + 2, 3, none⟩ = some (.int .u16 s.hd.d) ∧ wj.cell? ⟨w13.heap.size + 2, 4, none⟩ = some (.bool s.hd.ht) ∧ wj.cell? ⟨w13.heap.size + 2, 5, none⟩ = some (.bool s.hd.cy) ∧ (convert 22 9 (.slice A6 s.saveL.length c6)).run Try.prog wj = .ok (.string (strOfNums s.saveL)) wj := ⟨(blk_cell (blk_below B4.out HJ.out) 0).trans rfl, (blk_cell (blk_below B4.out HJ.out) 1).trans rfl, (blk_cell (blk_below B4.out HJ.out) 2).trans rfl, (blk_cell (blk_below B4.out HJ.out) 3).trans rfl, (blk_cell (blk_below B4.out HJ.out) 4).trans rfl, (blk_cell (blk_below B4.out HJ.out) 5).trans rfl, (blk_cell (blk_below B1.out HJ.out) 0).trans rfl, (blk_cell (blk_below B1.out HJ.out) 1).trans rfl, (blk_cell (blk_below B1.out HJ.out) 2).trans rfl, (blk_cell (blk_below B1.out HJ.out) 3).trans rfl, (blk_cell (blk_below B1.out HJ.out) 4).trans rfl, (blk_cell (blk_below B1.out HJ.out) 5).trans rfl, (blk_cell (blk_below B5.out HJ.out) 0).trans rfl, (blk_cell (blk_below B5.out HJ.out) 1).trans rfl, (blk_cell (blk_below B5.out HJ.out) 2).trans rfl, (blk_cell (blk_below B5.out HJ.out) 3).trans rfl, (blk_cell (blk_below B5.out HJ.out) 4).trans rfl, (blk_cell (blk_below B5.out HJ.out) 5).trans rfl, (blk_cell (blk_below B8.out HJ.out) 0).trans rfl, (blk_cell (blk_below B8.out HJ.out) 1).trans rfl, (blk_cell (blk_below B8.out HJ.out) 2).trans rfl, (blk_cell (blk_below B8.out HJ.out) 3).trans rfl, (blk_cell (blk_below B8.out HJ.out) 4).trans rfl, (blk_cell (blk_below B8.out HJ.out) 5).trans rfl, (blk_cell (blk_below B6.out HJ.out) 0).trans rfl, (blk_cell (blk_below B6.out HJ.out) 1).trans rfl, (blk_cell (blk_below B6.out HJ.out) 2).trans rfl, (blk_cell (blk_below B6.out HJ.out) 3).trans rfl, (blk_cell (blk_below B6.out HJ.out) 4).trans rfl, (blk_cell (blk_below B6.out HJ.out) 5).trans rfl, (blk_cell (blk_below B9.out HJ.out) 0).trans rfl, (blk_cell (blk_below B9.out HJ.out) 1).trans rfl, (blk_cell (blk_below B9.out HJ.out) 2).trans rfl, (blk_cell (blk_below B9.out HJ.out) 3).trans rfl, (blk_cell (blk_below B9.out HJ.out) 4).trans rfl, (blk_cell (blk_below B9.out HJ.out) 5).trans rfl, (HH.out.below HJ.out).text⟩
    refine pure_ (i := 27) (N := some 118) (v := ?_) (a' := ?_) #[true, true, true, true, true, true, true, true, true, true, true, true, true, true, true, true, true, true, true, true, true, true, true, true, true, true, true, true, false, false, false, false, false, false, false, false, false, false] rfl rfl (any_of HT_.out (by kernel_rfl)) (fun _ _ _ h => h) (Or.inl ⟨by rfl, ?_⟩) ?_ ?_
    rotate_left
    · intro w'
      go_simp
      with_reducible rfl
    rotate_left
    · simp only [Act.put, List.setIfInBounds_toArray, List.set_cons_zero, List.set_cons_succ, i64_w, i32_w]
      rfl
    refine pure_ (i := 28) (N := some 119) (v := ?_) (a' := ?_) #[true, true, true, true, true, true, true, true, true, true, true, true, true, true, true, true, true, true, true, true, true, true, true, true, true, true, true, true, true, false, false, false, false, false, false, false, false, false] rfl rfl (any_of HT_.out (by kernel_rfl)) (fun _ _ _ h => h) (Or.inl ⟨by rfl, ?_⟩) ?_ ?_
    rotate_left
    · intro w'
      go_simp
      with_reducible rfl
    rotate_left
    · simp only [Act.put, List.setIfInBounds_toArray, List.set_cons_zero, List.set_cons_succ, i64_w, i32_w]
      rfl
    refine pure_ (i := 29) (N := some 120) (v := ?_) (a' := ?_) #[true, true, true, true, true, true, true, true, true, true, true, true, true, true, true, true, true, true, true, true, true, true, true, true, true, true, true, true, true, true, false, false, false, false, false, false, false, false] rfl rfl (any_of HT_.out (by kernel_rfl)) (fun _ _ _ h => h) (Or.inl ⟨by rfl, ?_⟩) ?_ ?_
    rotate_left
    · intro w'
      go_simp
      with_reducible rfl
    rotate_left
    · simp only [Act.put, List.setIfInBounds_toArray, List.set_cons_zero, List.set_cons_succ, i64_w, i32_w]
      rfl
    refine pure_ (i := 30) (N := some 121) (v := ?_) (a' := ?_) #[true, true, true, true, true, true, true, true, true, true, true, true, true, true, true, true, true, true, true, true, true, true, true, true, true, true, true, true, true, true, true, false, false, false, false, false, false, false] rfl rfl (any_of HT_.out (by kernel_rfl)) (fun _ _ _ h => h) (Or.inl ⟨by rfl, ?_⟩) ?_ ?_
    rotate_left
    · intro w'
      go_simp
      with_reducible rfl
    rotate_left
    · simp only [Act.put, List.setIfInBounds_toArray, List.set_cons_zero, List.set_cons_succ, i64_w, i32_w]
      rfl
    refine pure_ (i := 33) (N := some 124) (v := ?_) (a' := ?_) #[true, true, true, true, true, true, true, true, true, true, true, true, true, true, true, true, true, true, true, true, true, true, true, true, true, true, true, true, true, true, true, false, false, true, false, false, false, false] rfl rfl (any_of HT_.out (by kernel_rfl)) (fun _ _ _ h => h) (Or.inl ⟨by rfl, ?_⟩) ?_ ?_
    rotate_left
    · intro w'
      go_simp
      with_reducible rfl
    rotate_left
    · simp only [Act.put, List.setIfInBounds_toArray, List.set_cons_zero, List.set_cons_succ, i64_w, i32_w]
      rfl
    refine take_ (i := 34) (N := some 125) (v := ?_) (a' := ?_) #[true, true, true, true, true, true, true, true, true, true, true, true, true, true, true, true, true, true, true, true, true, true, true, true, true, true, true, true, true, true, true, false, false, true, true, false, false, false] rfl rfl (take_ofW HT_.out HW_.out (by kernel_rfl)) (fun _ _ _ h => h) (Or.inl ⟨by rfl, ?_⟩) hHeld ?_ ?_
    rotate_left
    · rintro w' ⟨s0, s1, s2, s3, s4, s5, s6, s7, s8, s9, s10, s11, s12, s13, s14, s15, s16, s17, s18, s19, s20, s21, s22, s23, s24, s25, s26, s27, s28, s29, s30, s31, s32, s33, s34, s35, s36⟩
      go_simp
      with_reducible rfl
    rotate_left
    · simp only [Act.put, List.setIfInBounds_toArray, List.set_cons_zero, List.set_cons_succ, i64_w, i32_w]
      rfl
    refine one_ (i := 31) (N := some 122) #[true, true, true, true, true, true, true, true, true, true, true, true, true, true, true, true, true, true, true, true, true, true, true, true, true, true, true, true, true, true, true, true, false, true, true, false, false, false] rfl rfl (one_of HT_.out (by kernel_rfl)) (by decide) (fun K hK => ?_)
    refine goes_ Try.func22 (by kernel_rfl) rfl #[d.p] (by rfl) rfl rfl (by (try simp only [List.map_toArray, List.map_cons, List.map_nil]); first | done | rfl) ?_
    refine (save_at (CD.out.below HJ.out) OKU.out).mono ?_
    rintro e' wy2 ⟨v0, rfl, hR, hb⟩
    rw [Q5.out] at hR
    obtain ⟨A9, c9, rfl, hH⟩ := held_of_R hR
    have T3 := Aside0.mk hH
    have HX2 := Aside0.mk (below_step HJ.out hb)
    clear hb hR hH
    refine ⟨_, rfl, ?_⟩
    refine hK.out _ _ ⟨(blk_cell (blk_below B4.out HX2.out) 0).trans rfl, (blk_cell (blk_below B4.out HX2.out) 1).trans rfl, (blk_cell (blk_below B4.out HX2.out) 2).trans rfl, (blk_cell (blk_below B4.out HX2.out) 3).trans rfl, (blk_cell (blk_below B4.out HX2.out) 4).trans rfl, (blk_cell (blk_below B4.out HX2.out) 5).trans rfl, (blk_cell (blk_below B1.out HX2.out) 0).trans rfl, (blk_cell (blk_below B1.out HX2.out) 1).trans rfl, (blk_cell (blk_below B1.out HX2.out) 2).trans rfl, (blk_cell (blk_below B1.out HX2.out) 3).trans rfl, (blk_cell (blk_below B1.out HX2.out) 4).trans rfl, (blk_cell (blk_below B1.out HX2.out) 5).trans rfl, (blk_cell (blk_below B5.out HX2.out) 0).trans rfl, (blk_cell (blk_below B5.out HX2.out) 1).trans rfl, (blk_cell (blk_below B5.out HX2.out) 2).trans rfl, (blk_cell (blk_below B5.out HX2.out) 3).trans rfl, (blk_cell (blk_below B5.out HX2.out) 4).trans rfl, (blk_cell (blk_below B5.out HX2.out) 5).trans rfl, (blk_cell (blk_below B8.out HX2.out) 0).trans rfl, (blk_cell (blk_below B8.out HX2.out) 1).trans rfl, (blk_cell (blk_below B8.out HX2.out) 2).trans rfl, (blk_cell (blk_below B8.out HX2.out) 3).trans rfl, (blk_cell (blk_below B8.out HX2.out) 4).trans rfl, (blk_cell (blk_below B8.out HX2.out) 5).trans rfl, (blk_cell (blk_below B6.out HX2.out) 0).trans rfl, (blk_cell (blk_below B6.out HX2.out) 1).trans rfl, (blk_cell (blk_below B6.out HX2.out) 2).trans rfl, (blk_cell (blk_below B6.out HX2.out) 3).trans rfl, (blk_cell (blk_below B6.out HX2.out) 4).trans rfl, (blk_cell (blk_below B6.out HX2.out) 5).trans rfl, (blk_cell (blk_below B9.out HX2.out) 0).trans rfl, (blk_cell (blk_below B9.out HX2.out) 1).trans rfl, (blk_cell (blk_below B9.out HX2.out) 2).trans rfl, (blk_cell (blk_below B9.out HX2.out) 3).trans rfl, (blk_cell (blk_below B9.out HX2.out) 4).trans rfl, (blk_cell (blk_below B9.out HX2.out) 5).trans rfl, (HH.out.below HX2.out).text⟩ (fun hHeld => ?_)
    clear hK K
    refine norm_ (a' := ?_) ?_ ?_
    rotate_left
    · show Act.put _ (some 122) _ = _
      simp only [Act.put, List.setIfInBounds_toArray, List.set_cons_zero, List.set_cons_succ, i64_w, i32_w]
      rfl
    refine one_ (i := 32) (N := some 123) #[true, true, true, true, true, true, true, true, true, true, true, true, true, true, true, true, true, true, true, true, true, true, true, true, true, true, true, true, true, true, true, true, true, true, true, false, false, false] rfl rfl (one_of HT_.out (by kernel_rfl)) (by decide) (fun K hK => ?_)
    have ts_ := T3.out.text
    refine event_step (v := .string (strOfNums s.saveL)) (by rfl) (by go_simp; rfl) ?_
    refine hK.out _ _ ⟨(blk_cell (blk_below B4.out HX2.out) 0).trans rfl, (blk_cell (blk_below B4.out HX2.out) 1).trans rfl, (blk_cell (blk_below B4.out HX2.out) 2).trans rfl, (blk_cell (blk_below B4.out HX2.out) 3).trans rfl, (blk_cell (blk_below B4.out HX2.out) 4).trans rfl, (blk_cell (blk_below B4.out HX2.out) 5).trans rfl, (blk_cell (blk_below B1.out HX2.out) 0).trans rfl, (blk_cell (blk_below B1.out HX2.out) 1).trans rfl, (blk_cell (blk_below B1.out HX2.out) 2).trans rfl, (blk_cell (blk_below B1.out HX2.out) 3).trans rfl, (blk_cell (blk_below B1.out HX2.out) 4).trans rfl, (blk_cell (blk_below B1.out HX2.out) 5).trans rfl, (blk_cell (blk_below B5.out HX2.out) 0).trans rfl, (blk_cell (blk_below B5.out HX2.out) 1).trans rfl, (blk_cell (blk_below B5.out HX2.out) 2).trans rfl, (blk_cell (blk_below B5.out HX2.out) 3).trans rfl, (blk_cell (blk_below B5.out HX2.out) 4).trans rfl, (blk_cell (blk_below B5.out HX2.out) 5).trans rfl, (blk_cell (blk_below B8.out HX2.out) 0).trans rfl, (blk_cell (blk_below B8.out HX2.out) 1).trans rfl, (blk_cell (blk_below B8.out HX2.out) 2).trans rfl, (blk_cell (blk_below B8.out HX2.out) 3).trans rfl, (blk_cell (blk_below B8.out HX2.out) 4).trans rfl, (blk_cell (blk_below B8.out HX2.out) 5).trans rfl, (blk_cell (blk_below B6.out HX2.out) 0).trans rfl, (blk_cell (blk_below B6.out HX2.out) 1).trans rfl, (blk_cell (blk_below B6.out HX2.out) 2).trans rfl, (blk_cell (blk_below B6.out HX2.out) 3).trans rfl, (blk_cell (blk_below B6.out HX2.out) 4).trans rfl, (blk_cell (blk_below B6.out HX2.out) 5).trans rfl, (blk_cell (blk_below B9.out HX2.out) 0).trans rfl, (blk_cell (blk_below B9.out HX2.out) 1).trans rfl, (blk_cell (blk_below B9.out HX2.out) 2).trans rfl, (blk_cell (blk_below B9.out HX2.out) 3).trans rfl, (blk_cell (blk_below B9.out HX2.out) 4).trans rfl, (blk_cell (blk_below B9.out HX2.out) 5).trans rfl, (HH.out.below HX2.out).text⟩ (fun hHeld => ?_)
    clear hK K
    refine norm_ (a' := ?_) ?_ ?_
    rotate_left
    · show Act.put _ (some 123) _ = _
      simp only [Act.put, List.setIfInBounds_toArray, List.set_cons_zero, List.set_cons_succ, i64_w, i32_w]
      rfl
    clear ts_
    refine pure_ (i := 35) (N := some 126) (v := ?_) (a' := ?_) #[true, true, true, true, true, true, true, true, true, true, true, true, true, true, true, true, true, true, true, true, true, true, true, true, true, true, true, true, true, true, true, true, true, true, true, true, false, false] rfl rfl (any_of HT_.out (by kernel_rfl)) (fun _ _ _ h => h) (Or.inl ⟨by rfl, ?_⟩) ?_ ?_
    rotate_left
    · intro w'
      go_simp
      with_reducible rfl
    rotate_left
    · simp only [Act.put, List.setIfInBounds_toArray, List.set_cons_zero, List.set_cons_succ, i64_w, i32_w]
      rfl
    refine pure_ (i := 36) (N := some 127) (v := ?_) (a' := ?_) #[true, true, true, true, true, true, true, true, true, true, true, true, true, true, true, true, true, true, true, true, true, true, true, true, true, true, true, true, true, true, true, true, true, true, true, true, true, false] rfl rfl (any_of HT_.out (by kernel_rfl)) (fun _ _ _ h => h) (Or.inl ⟨by rfl, ?_⟩) ?_ ?_
    rotate_left
    · intro w'
      go_simp
      with_reducible rfl
    rotate_left
    · simp only [Act.put, List.setIfInBounds_toArray, List.set_cons_zero, List.set_cons_succ, i64_w, i32_w]
      rfl
    refine pure_ (i := 37) (N := some 6) (v := ?_) (a' := ?_) #[true, true, true, true, true, true, true, true, true, true, true, true, true, true, true, true, true, true, true, true, true, true, true, true, true, true, true, true, true, true, true, true, true, true, true, true, true, true] rfl rfl (any_of HT_.out (by kernel_rfl)) (fun _ _ _ h => h) (Or.inl ⟨by rfl, ?_⟩) ?_ ?_
    rotate_left
    · intro w'
      go_simp
      with_reducible rfl
    rotate_left
    · simp only [Act.put, List.setIfInBounds_toArray, List.set_cons_zero, List.set_cons_succ, i64_w, i32_w]
      rfl
    refine done_ (done_of HT_.out (by kernel_rfl)) ?_
    go_wp2
    go_returns
    exact ⟨rfl, below_step HB4.out HX2.out⟩
theorem whirligiglaw10_CartBack.direct (A0 : Option Addr) (c0 : Nat) (l0 : List Int) (A1 : Option Addr) (c1 : Nat) (l1 : List Act1) (A2 : Option Addr) (c2 : Nat) (l2 : List Act1) (w : World) (hr0 : Kd.C (Kd.int .u8) w A0 l0.length l0) (hc0 : l0.length ≤ c0) (hr1 : ActsAt w A1 l1) (hc1 : l1.length ≤ c1) (hr2 : ActsAt w A2 l2) (hc2 : l2.length ≤ c2) (w0 : l0.length ≤ 9223372036854775807) (y0 : ∀ x ∈ l0, 0 ≤ x ∧ x ≤ 255) (w1 : l1.length ≤ 9223372036854775807) (y1 : True) (w2 : l2.length ≤ 9223372036854775807) (y2 : True) :
    Calls Try.prog 6 #[.slice A0 l0.length c0, .slice A1 l1.length c1, .slice A2 l2.length c2] w fun e w' => e = .returned (.bool true) ∧ Below w.heap.size w w' := by
  by_cases he : headE l0 = 0
  · exact back_ok A0 c0 l0 A1 c1 l1 A2 c2 l2 w hr0 hc0 y0 hr1 hc1 hr2 hc2 he
  · exact back_no A0 c0 l0 A1 c1 l1 A2 c2 l2 w hr0 hc0 y0 hr1 hc1 hr2 hc2 he
end Go.Proofs.Ytmjjojbedllmgaa.Hand
end
namespace Go.Proofs.Ytmjjojbedllmgaa.cartBack
open Go.ChangeShapes Go.WideShapes Go.ChangeAt Go.RowKit
open Go.ChangeMaps (open_string shut_string)
set_option linter.unusedVariables false
theorem own : ownKnob Try.prog.godebug = none := by kernel_rfl
theorem laidOut : laidOutB Try.prog = true := by kernel_rfl
set_option maxRecDepth 100000 in
theorem lifted (os : Os) (started : os.Started) (H : Type) (enc : TypeId × Value → H) :
    ReturnsInHanded {} Try.checked os 6 .any (Rows.cartBackSpec.pre6 enc Try.prog Try.f6 Rows.cartBackRow.domain false) (Rows.cartBackSpec.post enc Try.prog Try.f6 false true false false) := by
  refine Frame.lifted_of (C := Try.checked) (bt := 4) own started (by kernel_rfl) Try.func6
    (ChangeSpec.witness6 (enc := enc) (C := Try.checked) false ⟨#[], #[.slice none 0 0, .slice none 0 0, .slice none 0 0], []⟩ 8 (by kernel_rfl) (by kernel_rfl) (by kernel_rfl) (by kernel_rfl)) rfl rfl Try.underlying4 ?_ laidOut (by kernel_rfl) ?_
  · intro ds h
    have h' : ds.length = 3 := h
    match ds, h' with
    | [d0, d1, d2], _ => rfl
  · intro W base vs ds p hval0 hA0 hsz0
    have hval : ∀ (j : Nat) (t : TypeId) (v : Value), Try.f6.params.toList[j]? = some t → vs[j]? = some v → Value.okWide Try.prog W .any base t v := hval0
    have hA : DataW.TrodAll enc Try.prog W 0 (fun _ => true) true Try.f6.params.toList vs ds p := hA0
    have hsz : (DataW.weightsEach Try.prog Try.f6.params.toList ds).all (· ≤ reachBytes) = true := hsz0
    rw [Try.params6] at hA hval hsz
    clear hval0 hA0 hsz0
    obtain ⟨v0, vs0, d0, ds0, p0, q0, rfl, rfl, rfl, h0, r0⟩ := trodAll_cons hA
    obtain ⟨v1, vs1, d1, ds1, p1, q1, rfl, rfl, rfl, h1, r1⟩ := trodAll_cons r0
    obtain ⟨v2, vs2, d2, ds2, p2, q2, rfl, rfl, rfl, h2, r2⟩ := trodAll_cons r1
    obtain ⟨rfl, rfl, rfl⟩ := trodAll_nil r2
    obtain ⟨A0, l0, c0, rfl, hr0, hc0, w0, y0⟩ := Pairs.open_bytes (okWide_slice Try.underlying22 (hval 0 22 v0 rfl rfl)) h0
    obtain ⟨A1, l1, c1, rfl, hr1, hc1, w1, y1⟩ := ActsRow.open_wrote (okWide_slice Try.underlying44 (hval 1 44 v1 rfl rfl)) h1
    obtain ⟨A2, l2, c2, rfl, hr2, hc2, w2, y2⟩ := ActsRow.open_wrote (okWide_slice Try.underlying44 (hval 2 44 v2 rfl rfl)) h2
    exact (Hand.whirligiglaw10_CartBack.direct A0 c0 l0 A1 c1 l1 A2 c2 l2 W hr0 hc0 hr1 hc1 hr2 hc2 w0 y0 w1 y1 w2 y2).mono fun e w' ⟨he, hb⟩ => ⟨he, hb⟩
theorem over : Rows.cartBackRow.holds Try.pinned (OpenSpec.ofChange Rows.cartBackSpec) :=
  OpenClaim.holds_of_wide 6 Try.f6 rfl rfl rfl rfl rfl rfl rfl ⟨rfl, rfl, rfl, rfl, rfl⟩ rfl rfl rfl rfl rfl (by kernel_rfl) Try.func6 (by kernel_rfl)
    (of_decide_eq_true (by kernel_rfl)) (by unfold Func.isWrapper; first | (rw [if_pos (by decide +kernel)]; kernel_rfl) | (rw [if_neg (by decide +kernel)]; exact ⟨rfl, rfl⟩))
    (fun os started H enc _ => lifted os started H enc)
theorem proved : Rows.CartBackSaid := over
end Go.Proofs.Ytmjjojbedllmgaa.cartBack
namespace Go.Proofs.Ytmjjojbedllmgaa
theorem cartBack_holds : Rows.CartBackSaid := cartBack.proved
end Go.Proofs.Ytmjjojbedllmgaa
