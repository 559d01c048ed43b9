/- header.Make by hand: what is refused. -/
import Derived.Test.YtmlpijlnchnabaaHCatch
import Derived.Test.YtmlpijlnchnabaaHSum0
import Derived.Test.YtmlpijlnchnabaaHWare
import Derived.Test.YtmlpijlnchnabaaHHeadOk
import Derived.Test.YtmlpijlnchnabaaHMakeDef
import Derived.Test.YtmlpijlnchnabaaG4
import Derived.Test.YtmlpijlnchnabaaG6
import Derived.Deep.MidRow
import Derived.Handy
namespace Go.Proofs.Ytmlpijlnchnabaa.Hand
open Go.RowKit
open Go.Proofs.Ytmlpijlnchnabaa.G
open Go.Proofs.YtmlpijlnchnabaaW.PrintWords Go.Proofs.YtmlpijlnchnabaaW.PrintLast Go.Proofs.YtmlpijlnchnabaaW.PrintMore
set_option linter.unusedVariables false
set_option linter.unusedSimpArgs false
set_option maxRecDepth 100000 in
set_option maxHeartbeats 4000000 in
theorem hmake_long (s : ByteArray) (kd rom ram : Int) (A : Option Addr) (c : Nat) (l : List Int) (w : World) (hr : Kd.C (Kd.int .u8) w A l.length l) (hc : l.length ≤ c) (hs : ¬ (s.size : Int) ≤ 16) :
    Calls Try.prog 12 #[.string s, .int .u8 kd, .int .u8 rom, .int .u8 ram, .slice A l.length c] w fun e' w' => e' = .returned (.tuple #[.slice none 0 0, .int .i64 1]) ∧ Below w.heap.size w w' := by
  have hmf : ∀ (fn : Fn) (first cap : Array Value) (w : World), (Instr.makeFunc fn first cap).run Try.prog w = .ok (.func fn first cap) w := fun _ _ _ _ => rfl
  have HR := Aside0.mk hr
  clear hr
  go_enter_defers Try.func12, Try.ntmps12
  go_wp2_with fail
  have z1 := heap_alloc_new w (.cells #[.int .i64 0] 27)
  have z2 := below_alloc (Below.refl w.heap.size w) (.cells #[.int .i64 0] 27)
  generalize w.alloc (.cells #[.int .i64 0] 27) = W0 at z1 z2 ⊢
  refine (need_no 1 _).mono ?_
  rintro e' w' ⟨rfl, hw⟩
  replace hw := hw.symm
  subst hw
  refine leaves_cons (f := 28) (args := #[.pointer (some ⟨w.heap.size, 0, none⟩)]) (by simp) (by simp [go_sem]) ?_
  refine (make_panicking ⟨w.heap.size, 0, none⟩ 0 1 [] _ ((blk_cell (z1) 0).trans rfl) (blk_frozen (z1) 0)).mono ?_
  rintro e u' w'' ⟨rfl, rfl, rfl⟩
  have m1 : ((W0).setCell ⟨w.heap.size, 0, none⟩ (.int .i64 1)).heap[w.heap.size]? = some (.cells #[.int .i64 1] 27 (0, 0)) := blk_put (z1) 0 _ rfl
  have m2 : Below w.heap.size w ((W0).setCell ⟨w.heap.size, 0, none⟩ (.int .i64 1)) := below_set (z2) (Nat.le_refl _)
  generalize ((W0).setCell ⟨w.heap.size, 0, none⟩ (.int .i64 1)) = Y at m1 m2 ⊢
  have v0 : Y.cell? ⟨w.heap.size, 0, none⟩ = some (.int .i64 1) := (blk_cell m1 0).trans rfl
  simp [Leaves, settle, results, Try.results12, go_sem, v0, m2]
set_option maxRecDepth 100000 in
set_option maxHeartbeats 4000000 in
theorem hmake_sign (s : ByteArray) (kd rom ram : Int) (A : Option Addr) (c : Nat) (l : List Int) (w : World) (hr : Kd.C (Kd.int .u8) w A l.length l) (hc : l.length ≤ c) (hs : (s.size : Int) ≤ 16) (j0 : Nat) (hj0 : (j0 : Int) < s.size) (hpr : ∀ i : Nat, i < j0 → prb (bt s (i : Int)) = true) (hno : prb (bt s (j0 : Int)) = false) :
    Calls Try.prog 12 #[.string s, .int .u8 kd, .int .u8 rom, .int .u8 ram, .slice A l.length c] w fun e' w' => e' = .returned (.tuple #[.slice none 0 0, .int .i64 1]) ∧ Below w.heap.size w w' := by
  have hmf : ∀ (fn : Fn) (first cap : Array Value) (w : World), (Instr.makeFunc fn first cap).run Try.prog w = .ok (.func fn first cap) w := fun _ _ _ _ => rfl
  have HR := Aside0.mk hr
  clear hr
  go_enter_defers Try.func12, Try.ntmps12
  go_wp2_with fail
  have z1 := heap_alloc_new w (.cells #[.int .i64 0] 27)
  have z2 := below_alloc (Below.refl w.heap.size w) (.cells #[.int .i64 0] 27)
  generalize w.alloc (.cells #[.int .i64 0] 27) = W0 at z1 z2 ⊢
  refine (need_ok 1 _).mono ?_
  rintro e' w' ⟨rfl, hw⟩
  replace hw := hw.symm
  subst hw
  go_wp2_with fail
  go_loopw [24] (fun i w' => ∃ (j : Nat), i = .int .i64 j ∧ Aside0 (j ≤ j0 ∧ w'.heap[w.heap.size]? = some (.cells #[.int .i64 0] 27 (0, 0)) ∧ Below w.heap.size w w')) (fun i _ => 20 - (intOf i).toNat)
  case atStart => exact ⟨0, rfl, Aside0.mk ⟨by omega, z1, z2⟩⟩
  case round =>
    obtain ⟨j, rfl, HA⟩ := hrel
    obtain ⟨hj, z1, z2⟩ := HA.out
    clear HA
    by_cases hjJ : j = j0
    · have hpr' := hpr
      clear hpr
      have h16 : (j : Int) ≤ 16 := by omega
      subst hjJ
      have p9 : 0 ≤ (j : Int) := by omega
      have q9 : (j : Int) < (s.size : Int) := by omega
      replace p9 := eq_true p9
      replace q9 := eq_true q9
      have hjs : j < s.size := by omega
      have hbt : bt s (j : Int) = ((s[j]'hjs).toNat : Int) := by simp [bt, hjs]
      rw [hbt] at hno
      go_wp2_with fail
      (with_reducible refine (header_printable.calls _ _ _ (prb_calls _)).mono ?_)
      rintro e' w' ⟨rfl, ⟨nd, rfl⟩⟩
      rw [hno]
      go_wp2_with fail
      refine (need_no 1 _).mono ?_
      rintro e' w' ⟨rfl, rfl⟩
      have D1 := blk_drewN z1 nd
      have D2 := pw_below_drewN z2 nd
      generalize wr.drewN nd = W1 at D1 D2 ⊢
      refine leaves_cons (f := 28) (args := #[.pointer (some ⟨w.heap.size, 0, none⟩)]) (by simp) (by simp [go_sem]) ?_
      refine (make_panicking ⟨w.heap.size, 0, none⟩ 0 1 [] _ ((blk_cell (D1) 0).trans rfl) (blk_frozen (D1) 0)).mono ?_
      rintro e u' w'' ⟨rfl, rfl, rfl⟩
      have m1 : ((W1).setCell ⟨w.heap.size, 0, none⟩ (.int .i64 1)).heap[w.heap.size]? = some (.cells #[.int .i64 1] 27 (0, 0)) := blk_put (D1) 0 _ rfl
      have m2 : Below w.heap.size w ((W1).setCell ⟨w.heap.size, 0, none⟩ (.int .i64 1)) := below_set (D2) (Nat.le_refl _)
      generalize ((W1).setCell ⟨w.heap.size, 0, none⟩ (.int .i64 1)) = Y at m1 m2 ⊢
      have v0 : Y.cell? ⟨w.heap.size, 0, none⟩ = some (.int .i64 1) := (blk_cell m1 0).trans rfl
      simp [Leaves, settle, results, Try.results12, go_sem, v0, m2]

    have hb := hpr j (by omega)
    have p9 : 0 ≤ (j : Int) := by omega
    have q9 : (j : Int) < (s.size : Int) := by omega
    have hx9 := bt_at s (j : Int)
    have q9' := q9
    replace p9 := eq_true p9
    replace q9 := eq_true q9
    have hjs : j < s.size := by omega
    have hbt : bt s (j : Int) = ((s[j]'hjs).toNat : Int) := by simp [bt, hjs]
    rw [hbt] at hb
    clear hx9
    go_wp2_with fail
    (with_reducible refine (header_printable.calls _ _ _ (prb_calls _)).mono ?_)
    rintro e' w' ⟨rfl, ⟨nd, rfl⟩⟩
    rw [hb]
    go_wp2_with fail
    refine (need_ok 1 _).mono ?_
    rintro e' w' ⟨rfl, rfl⟩
    go_wp2_with fail
    exact ⟨⟨j + 1, by simp, Aside0.mk ⟨by omega, blk_drewN z1 nd, pw_below_drewN z2 nd⟩⟩, by simp [intOf]; omega⟩
set_option maxRecDepth 100000 in
set_option maxHeartbeats 4000000 in
theorem hmake_kind (s : ByteArray) (kd rom ram : Int) (A : Option Addr) (c : Nat) (l : List Int) (w : World) (hr : Kd.C (Kd.int .u8) w A l.length l) (hc : l.length ≤ c) (hs : (s.size : Int) ≤ 16) (hpr : ∀ i : Nat, i < s.size → prb (bt s (i : Int)) = true) (hk : 0 ≤ kd ∧ kd ≤ 255) (hok : (wareT kd).2.2.2.2 = false) :
    Calls Try.prog 12 #[.string s, .int .u8 kd, .int .u8 rom, .int .u8 ram, .slice A l.length c] w fun e' w' => e' = .returned (.tuple #[.slice none 0 0, .int .i64 4]) ∧ Below w.heap.size w w' := by
  have hmf : ∀ (fn : Fn) (first cap : Array Value) (w : World), (Instr.makeFunc fn first cap).run Try.prog w = .ok (.func fn first cap) w := fun _ _ _ _ => rfl
  have HR := Aside0.mk hr
  clear hr
  go_enter_defers Try.func12, Try.ntmps12
  go_wp2_with fail
  have z1 := heap_alloc_new w (.cells #[.int .i64 0] 27)
  have z2 := below_alloc (Below.refl w.heap.size w) (.cells #[.int .i64 0] 27)
  generalize w.alloc (.cells #[.int .i64 0] 27) = W0 at z1 z2 ⊢
  refine (need_ok 1 _).mono ?_
  rintro e' w' ⟨rfl, hw⟩
  replace hw := hw.symm
  subst hw
  go_wp2_with fail
  go_loopw [24] (fun i w' => ∃ (j : Nat), i = .int .i64 j ∧ Aside0 (j ≤ s.size ∧ w'.heap[w.heap.size]? = some (.cells #[.int .i64 0] 27 (0, 0)) ∧ Below w.heap.size w w')) (fun i _ => 20 - (intOf i).toNat)
  case atStart => exact ⟨0, rfl, Aside0.mk ⟨by omega, z1, z2⟩⟩
  case round =>
    obtain ⟨j, rfl, HA⟩ := hrel
    obtain ⟨hj, z1, z2⟩ := HA.out
    clear HA
    by_cases hjJ : j = s.size
    · have hpr' := hpr
      clear hpr
      have h16 : (j : Int) ≤ 16 := by omega
      have hge : ¬ (j : Int) < (s.size : Int) := by omega
      go_wp2_with fail
      refine (header_ware.calls kd hk _).mono ?_
      rintro e' w1 ⟨rfl, hb⟩
      have B1 := blk_below z1 hb
      have B2 := Below.trans z2 (hb.mono z2.size)
      rw [hok]
      go_wp2_with fail
      refine (need_no 4 _).mono ?_
      rintro e' w' ⟨rfl, rfl⟩
      have D1 := blk_alloc B1 (.cells #[.string ⟨#[]⟩, .int .u8 0, .int .i64 (wareT kd).1, .bool (wareT kd).2.1, .bool (wareT kd).2.2.1, .bool (wareT kd).2.2.2.1, .int .i64 0, .int .i64 0, .int .u8 0, .int .u16 0] 26)
      have D2 := below_alloc B2 (.cells #[.string ⟨#[]⟩, .int .u8 0, .int .i64 (wareT kd).1, .bool (wareT kd).2.1, .bool (wareT kd).2.2.1, .bool (wareT kd).2.2.2.1, .int .i64 0, .int .i64 0, .int .u8 0, .int .u16 0] 26)
      generalize w1.alloc (.cells #[.string ⟨#[]⟩, .int .u8 0, .int .i64 (wareT kd).1, .bool (wareT kd).2.1, .bool (wareT kd).2.2.1, .bool (wareT kd).2.2.2.1, .int .i64 0, .int .i64 0, .int .u8 0, .int .u16 0] 26) = W1 at D1 D2 ⊢
      clear z1 z2 B1 B2 hb
      refine leaves_cons (f := 28) (args := #[.pointer (some ⟨w.heap.size, 0, none⟩)]) (by simp) (by simp [go_sem]) ?_
      refine (make_panicking ⟨w.heap.size, 0, none⟩ 0 4 [] _ ((blk_cell (D1) 0).trans rfl) (blk_frozen (D1) 0)).mono ?_
      rintro e u' w'' ⟨rfl, rfl, rfl⟩
      have m1 : ((W1).setCell ⟨w.heap.size, 0, none⟩ (.int .i64 4)).heap[w.heap.size]? = some (.cells #[.int .i64 4] 27 (0, 0)) := blk_put (D1) 0 _ rfl
      have m2 : Below w.heap.size w ((W1).setCell ⟨w.heap.size, 0, none⟩ (.int .i64 4)) := below_set (D2) (Nat.le_refl _)
      generalize ((W1).setCell ⟨w.heap.size, 0, none⟩ (.int .i64 4)) = Y at m1 m2 ⊢
      have v0 : Y.cell? ⟨w.heap.size, 0, none⟩ = some (.int .i64 4) := (blk_cell m1 0).trans rfl
      simp [Leaves, settle, results, Try.results12, go_sem, v0, m2]

    have hb := hpr j (by omega)
    have p9 : 0 ≤ (j : Int) := by omega
    have q9 : (j : Int) < (s.size : Int) := by omega
    have hx9 := bt_at s (j : Int)
    have q9' := q9
    replace p9 := eq_true p9
    replace q9 := eq_true q9
    have hjs : j < s.size := by omega
    have hbt : bt s (j : Int) = ((s[j]'hjs).toNat : Int) := by simp [bt, hjs]
    rw [hbt] at hb
    clear hx9
    go_wp2_with fail
    (with_reducible refine (header_printable.calls _ _ _ (prb_calls _)).mono ?_)
    rintro e' w' ⟨rfl, ⟨nd, rfl⟩⟩
    rw [hb]
    go_wp2_with fail
    refine (need_ok 1 _).mono ?_
    rintro e' w' ⟨rfl, rfl⟩
    go_wp2_with fail
    exact ⟨⟨j + 1, by simp, Aside0.mk ⟨by omega, blk_drewN z1 nd, pw_below_drewN z2 nd⟩⟩, by simp [intOf]; omega⟩
set_option maxRecDepth 100000 in
set_option maxHeartbeats 4000000 in
theorem hmake_size_a (s : ByteArray) (kd rom ram : Int) (A : Option Addr) (c : Nat) (l : List Int) (w : World) (hr : Kd.C (Kd.int .u8) w A l.length l) (hc : l.length ≤ c) (hs : (s.size : Int) ≤ 16) (hpr : ∀ i : Nat, i < s.size → prb (bt s (i : Int)) = true) (hk : 0 ≤ kd ∧ kd ≤ 255) (hok : (wareT kd).2.2.2.2 = true) (h8 : decide (rom ≤ 8) = false) :
    Calls Try.prog 12 #[.string s, .int .u8 kd, .int .u8 rom, .int .u8 ram, .slice A l.length c] w fun e' w' => e' = .returned (.tuple #[.slice none 0 0, .int .i64 5]) ∧ Below w.heap.size w w' := by
  have hmf : ∀ (fn : Fn) (first cap : Array Value) (w : World), (Instr.makeFunc fn first cap).run Try.prog w = .ok (.func fn first cap) w := fun _ _ _ _ => rfl
  have HR := Aside0.mk hr
  clear hr
  go_enter_defers Try.func12, Try.ntmps12
  go_wp2_with fail
  have z1 := heap_alloc_new w (.cells #[.int .i64 0] 27)
  have z2 := below_alloc (Below.refl w.heap.size w) (.cells #[.int .i64 0] 27)
  generalize w.alloc (.cells #[.int .i64 0] 27) = W0 at z1 z2 ⊢
  refine (need_ok 1 _).mono ?_
  rintro e' w' ⟨rfl, hw⟩
  replace hw := hw.symm
  subst hw
  go_wp2_with fail
  go_loopw [24] (fun i w' => ∃ (j : Nat), i = .int .i64 j ∧ Aside0 (j ≤ s.size ∧ w'.heap[w.heap.size]? = some (.cells #[.int .i64 0] 27 (0, 0)) ∧ Below w.heap.size w w')) (fun i _ => 20 - (intOf i).toNat)
  case atStart => exact ⟨0, rfl, Aside0.mk ⟨by omega, z1, z2⟩⟩
  case round =>
    obtain ⟨j, rfl, HA⟩ := hrel
    obtain ⟨hj, z1, z2⟩ := HA.out
    clear HA
    by_cases hjJ : j = s.size
    · have hpr' := hpr
      clear hpr
      have h16 : (j : Int) ≤ 16 := by omega
      have hge : ¬ (j : Int) < (s.size : Int) := by omega
      go_wp2_with fail
      refine (header_ware.calls kd hk _).mono ?_
      rintro e' w1 ⟨rfl, hb⟩
      have B1 := blk_below z1 hb
      have B2 := Below.trans z2 (hb.mono z2.size)
      rw [hok]
      go_wp2_with fail
      refine (need_ok 4 _).mono ?_
      rintro e' w' ⟨rfl, rfl⟩
      have D1 := blk_alloc B1 (.cells #[.string ⟨#[]⟩, .int .u8 kd, .int .i64 (wareT kd).1, .bool (wareT kd).2.1, .bool (wareT kd).2.2.1, .bool (wareT kd).2.2.2.1, .int .i64 0, .int .i64 0, .int .u8 0, .int .u16 0] 26)
      have D2 := below_alloc B2 (.cells #[.string ⟨#[]⟩, .int .u8 kd, .int .i64 (wareT kd).1, .bool (wareT kd).2.1, .bool (wareT kd).2.2.1, .bool (wareT kd).2.2.2.1, .int .i64 0, .int .i64 0, .int .u8 0, .int .u16 0] 26)
      generalize w1.alloc (.cells #[.string ⟨#[]⟩, .int .u8 kd, .int .i64 (wareT kd).1, .bool (wareT kd).2.1, .bool (wareT kd).2.2.1, .bool (wareT kd).2.2.2.1, .int .i64 0, .int .i64 0, .int .u8 0, .int .u16 0] 26) = W1 at D1 D2 ⊢
      clear z1 z2 B1 B2 hb
      go_wp2_with fail
      refine (need_no 5 _).mono ?_
      rintro e' w' ⟨rfl, hw⟩
      replace hw := hw.symm
      subst hw
      refine leaves_cons (f := 28) (args := #[.pointer (some ⟨w.heap.size, 0, none⟩)]) (by simp) (by simp [go_sem]) ?_
      refine (make_panicking ⟨w.heap.size, 0, none⟩ 0 5 [] _ ((blk_cell (D1) 0).trans rfl) (blk_frozen (D1) 0)).mono ?_
      rintro e u' w'' ⟨rfl, rfl, rfl⟩
      have m1 : ((W1).setCell ⟨w.heap.size, 0, none⟩ (.int .i64 5)).heap[w.heap.size]? = some (.cells #[.int .i64 5] 27 (0, 0)) := blk_put (D1) 0 _ rfl
      have m2 : Below w.heap.size w ((W1).setCell ⟨w.heap.size, 0, none⟩ (.int .i64 5)) := below_set (D2) (Nat.le_refl _)
      generalize ((W1).setCell ⟨w.heap.size, 0, none⟩ (.int .i64 5)) = Y at m1 m2 ⊢
      have v0 : Y.cell? ⟨w.heap.size, 0, none⟩ = some (.int .i64 5) := (blk_cell m1 0).trans rfl
      simp [Leaves, settle, results, Try.results12, go_sem, v0, m2]

    have hb := hpr j (by omega)
    have p9 : 0 ≤ (j : Int) := by omega
    have q9 : (j : Int) < (s.size : Int) := by omega
    have hx9 := bt_at s (j : Int)
    have q9' := q9
    replace p9 := eq_true p9
    replace q9 := eq_true q9
    have hjs : j < s.size := by omega
    have hbt : bt s (j : Int) = ((s[j]'hjs).toNat : Int) := by simp [bt, hjs]
    rw [hbt] at hb
    clear hx9
    go_wp2_with fail
    (with_reducible refine (header_printable.calls _ _ _ (prb_calls _)).mono ?_)
    rintro e' w' ⟨rfl, ⟨nd, rfl⟩⟩
    rw [hb]
    go_wp2_with fail
    refine (need_ok 1 _).mono ?_
    rintro e' w' ⟨rfl, rfl⟩
    go_wp2_with fail
    exact ⟨⟨j + 1, by simp, Aside0.mk ⟨by omega, blk_drewN z1 nd, pw_below_drewN z2 nd⟩⟩, by simp [intOf]; omega⟩
set_option maxRecDepth 100000 in
set_option maxHeartbeats 4000000 in
theorem hmake_size_b (s : ByteArray) (kd rom ram : Int) (A : Option Addr) (c : Nat) (l : List Int) (w : World) (hr : Kd.C (Kd.int .u8) w A l.length l) (hc : l.length ≤ c) (hs : (s.size : Int) ≤ 16) (hpr : ∀ i : Nat, i < s.size → prb (bt s (i : Int)) = true) (hk : 0 ≤ kd ∧ kd ≤ 255) (hok : (wareT kd).2.2.2.2 = true) (h8 : decide (rom ≤ 8) = true) (h5 : decide (ram ≤ 5) = false) :
    Calls Try.prog 12 #[.string s, .int .u8 kd, .int .u8 rom, .int .u8 ram, .slice A l.length c] w fun e' w' => e' = .returned (.tuple #[.slice none 0 0, .int .i64 5]) ∧ Below w.heap.size w w' := by
  have hmf : ∀ (fn : Fn) (first cap : Array Value) (w : World), (Instr.makeFunc fn first cap).run Try.prog w = .ok (.func fn first cap) w := fun _ _ _ _ => rfl
  have HR := Aside0.mk hr
  clear hr
  go_enter_defers Try.func12, Try.ntmps12
  go_wp2_with fail
  have z1 := heap_alloc_new w (.cells #[.int .i64 0] 27)
  have z2 := below_alloc (Below.refl w.heap.size w) (.cells #[.int .i64 0] 27)
  generalize w.alloc (.cells #[.int .i64 0] 27) = W0 at z1 z2 ⊢
  refine (need_ok 1 _).mono ?_
  rintro e' w' ⟨rfl, hw⟩
  replace hw := hw.symm
  subst hw
  go_wp2_with fail
  go_loopw [24] (fun i w' => ∃ (j : Nat), i = .int .i64 j ∧ Aside0 (j ≤ s.size ∧ w'.heap[w.heap.size]? = some (.cells #[.int .i64 0] 27 (0, 0)) ∧ Below w.heap.size w w')) (fun i _ => 20 - (intOf i).toNat)
  case atStart => exact ⟨0, rfl, Aside0.mk ⟨by omega, z1, z2⟩⟩
  case round =>
    obtain ⟨j, rfl, HA⟩ := hrel
    obtain ⟨hj, z1, z2⟩ := HA.out
    clear HA
    by_cases hjJ : j = s.size
    · have hpr' := hpr
      clear hpr
      have h16 : (j : Int) ≤ 16 := by omega
      have hge : ¬ (j : Int) < (s.size : Int) := by omega
      go_wp2_with fail
      refine (header_ware.calls kd hk _).mono ?_
      rintro e' w1 ⟨rfl, hb⟩
      have B1 := blk_below z1 hb
      have B2 := Below.trans z2 (hb.mono z2.size)
      rw [hok]
      go_wp2_with fail
      refine (need_ok 4 _).mono ?_
      rintro e' w' ⟨rfl, rfl⟩
      have D1 := blk_alloc B1 (.cells #[.string ⟨#[]⟩, .int .u8 kd, .int .i64 (wareT kd).1, .bool (wareT kd).2.1, .bool (wareT kd).2.2.1, .bool (wareT kd).2.2.2.1, .int .i64 0, .int .i64 0, .int .u8 0, .int .u16 0] 26)
      have D2 := below_alloc B2 (.cells #[.string ⟨#[]⟩, .int .u8 kd, .int .i64 (wareT kd).1, .bool (wareT kd).2.1, .bool (wareT kd).2.2.1, .bool (wareT kd).2.2.2.1, .int .i64 0, .int .i64 0, .int .u8 0, .int .u16 0] 26)
      generalize w1.alloc (.cells #[.string ⟨#[]⟩, .int .u8 kd, .int .i64 (wareT kd).1, .bool (wareT kd).2.1, .bool (wareT kd).2.2.1, .bool (wareT kd).2.2.2.1, .int .i64 0, .int .i64 0, .int .u8 0, .int .u16 0] 26) = W1 at D1 D2 ⊢
      clear z1 z2 B1 B2 hb
      go_wp2_with fail
      refine (need_no 5 _).mono ?_
      rintro e' w' ⟨rfl, hw⟩
      replace hw := hw.symm
      subst hw
      refine leaves_cons (f := 28) (args := #[.pointer (some ⟨w.heap.size, 0, none⟩)]) (by simp) (by simp [go_sem]) ?_
      refine (make_panicking ⟨w.heap.size, 0, none⟩ 0 5 [] _ ((blk_cell (D1) 0).trans rfl) (blk_frozen (D1) 0)).mono ?_
      rintro e u' w'' ⟨rfl, rfl, rfl⟩
      have m1 : ((W1).setCell ⟨w.heap.size, 0, none⟩ (.int .i64 5)).heap[w.heap.size]? = some (.cells #[.int .i64 5] 27 (0, 0)) := blk_put (D1) 0 _ rfl
      have m2 : Below w.heap.size w ((W1).setCell ⟨w.heap.size, 0, none⟩ (.int .i64 5)) := below_set (D2) (Nat.le_refl _)
      generalize ((W1).setCell ⟨w.heap.size, 0, none⟩ (.int .i64 5)) = Y at m1 m2 ⊢
      have v0 : Y.cell? ⟨w.heap.size, 0, none⟩ = some (.int .i64 5) := (blk_cell m1 0).trans rfl
      simp [Leaves, settle, results, Try.results12, go_sem, v0, m2]

    have hb := hpr j (by omega)
    have p9 : 0 ≤ (j : Int) := by omega
    have q9 : (j : Int) < (s.size : Int) := by omega
    have hx9 := bt_at s (j : Int)
    have q9' := q9
    replace p9 := eq_true p9
    replace q9 := eq_true q9
    have hjs : j < s.size := by omega
    have hbt : bt s (j : Int) = ((s[j]'hjs).toNat : Int) := by simp [bt, hjs]
    rw [hbt] at hb
    clear hx9
    go_wp2_with fail
    (with_reducible refine (header_printable.calls _ _ _ (prb_calls _)).mono ?_)
    rintro e' w' ⟨rfl, ⟨nd, rfl⟩⟩
    rw [hb]
    go_wp2_with fail
    refine (need_ok 1 _).mono ?_
    rintro e' w' ⟨rfl, rfl⟩
    go_wp2_with fail
    exact ⟨⟨j + 1, by simp, Aside0.mk ⟨by omega, blk_drewN z1 nd, pw_below_drewN z2 nd⟩⟩, by simp [intOf]; omega⟩
set_option maxRecDepth 100000 in
set_option maxHeartbeats 4000000 in
theorem hmake_size_c (s : ByteArray) (kd rom ram : Int) (A : Option Addr) (c : Nat) (l : List Int) (w : World) (hr : Kd.C (Kd.int .u8) w A l.length l) (hc : l.length ≤ c) (hs : (s.size : Int) ≤ 16) (hpr : ∀ i : Nat, i < s.size → prb (bt s (i : Int)) = true) (hk : 0 ≤ kd ∧ kd ≤ 255) (hok : (wareT kd).2.2.2.2 = true) (h80 : 0 ≤ rom) (h8 : decide (rom ≤ 8) = true) (h5 : decide (ram ≤ 5) = true) (hm : decide ((l.length : Int) ≤ wrap64 (shl .i64 32768 rom - 336)) = false) :
    Calls Try.prog 12 #[.string s, .int .u8 kd, .int .u8 rom, .int .u8 ram, .slice A l.length c] w fun e' w' => e' = .returned (.tuple #[.slice none 0 0, .int .i64 5]) ∧ Below w.heap.size w w' := by
  have hmf : ∀ (fn : Fn) (first cap : Array Value) (w : World), (Instr.makeFunc fn first cap).run Try.prog w = .ok (.func fn first cap) w := fun _ _ _ _ => rfl
  have HR := Aside0.mk hr
  clear hr
  go_enter_defers Try.func12, Try.ntmps12
  go_wp2_with fail
  have z1 := heap_alloc_new w (.cells #[.int .i64 0] 27)
  have z2 := below_alloc (Below.refl w.heap.size w) (.cells #[.int .i64 0] 27)
  generalize w.alloc (.cells #[.int .i64 0] 27) = W0 at z1 z2 ⊢
  refine (need_ok 1 _).mono ?_
  rintro e' w' ⟨rfl, hw⟩
  replace hw := hw.symm
  subst hw
  go_wp2_with fail
  go_loopw [24] (fun i w' => ∃ (j : Nat), i = .int .i64 j ∧ Aside0 (j ≤ s.size ∧ w'.heap[w.heap.size]? = some (.cells #[.int .i64 0] 27 (0, 0)) ∧ Below w.heap.size w w')) (fun i _ => 20 - (intOf i).toNat)
  case atStart => exact ⟨0, rfl, Aside0.mk ⟨by omega, z1, z2⟩⟩
  case round =>
    obtain ⟨j, rfl, HA⟩ := hrel
    obtain ⟨hj, z1, z2⟩ := HA.out
    clear HA
    by_cases hjJ : j = s.size
    · have hpr' := hpr
      clear hpr
      have h16 : (j : Int) ≤ 16 := by omega
      have hge : ¬ (j : Int) < (s.size : Int) := by omega
      go_wp2_with fail
      refine (header_ware.calls kd hk _).mono ?_
      rintro e' w1 ⟨rfl, hb⟩
      have B1 := blk_below z1 hb
      have B2 := Below.trans z2 (hb.mono z2.size)
      rw [hok]
      go_wp2_with fail
      refine (need_ok 4 _).mono ?_
      rintro e' w' ⟨rfl, rfl⟩
      have D1 := blk_alloc B1 (.cells #[.string ⟨#[]⟩, .int .u8 kd, .int .i64 (wareT kd).1, .bool (wareT kd).2.1, .bool (wareT kd).2.2.1, .bool (wareT kd).2.2.2.1, .int .i64 0, .int .i64 0, .int .u8 0, .int .u16 0] 26)
      have D2 := below_alloc B2 (.cells #[.string ⟨#[]⟩, .int .u8 kd, .int .i64 (wareT kd).1, .bool (wareT kd).2.1, .bool (wareT kd).2.2.1, .bool (wareT kd).2.2.2.1, .int .i64 0, .int .i64 0, .int .u8 0, .int .u16 0] 26)
      generalize w1.alloc (.cells #[.string ⟨#[]⟩, .int .u8 kd, .int .i64 (wareT kd).1, .bool (wareT kd).2.1, .bool (wareT kd).2.2.1, .bool (wareT kd).2.2.2.1, .int .i64 0, .int .i64 0, .int .u8 0, .int .u16 0] 26) = W1 at D1 D2 ⊢
      clear z1 z2 B1 B2 hb
      go_wp2_with fail
      (with_reducible refine (header_most.calls rom _ _ (by unfold header_most.f; rw [if_pos h80])).mono ?_)
      rintro e' w' ⟨rfl, ⟨nd, rfl⟩⟩
      go_wp2_with fail
      refine (need_no 5 _).mono ?_
      rintro e' w' ⟨rfl, rfl⟩
      have E1 := blk_drewN D1 nd
      have E2 := pw_below_drewN D2 nd
      generalize W1.drewN nd = W2 at E1 E2 ⊢
      refine leaves_cons (f := 28) (args := #[.pointer (some ⟨w.heap.size, 0, none⟩)]) (by simp) (by simp [go_sem]) ?_
      refine (make_panicking ⟨w.heap.size, 0, none⟩ 0 5 [] _ ((blk_cell (E1) 0).trans rfl) (blk_frozen (E1) 0)).mono ?_
      rintro e u' w'' ⟨rfl, rfl, rfl⟩
      have m1 : ((W2).setCell ⟨w.heap.size, 0, none⟩ (.int .i64 5)).heap[w.heap.size]? = some (.cells #[.int .i64 5] 27 (0, 0)) := blk_put (E1) 0 _ rfl
      have m2 : Below w.heap.size w ((W2).setCell ⟨w.heap.size, 0, none⟩ (.int .i64 5)) := below_set (E2) (Nat.le_refl _)
      generalize ((W2).setCell ⟨w.heap.size, 0, none⟩ (.int .i64 5)) = Y at m1 m2 ⊢
      have v0 : Y.cell? ⟨w.heap.size, 0, none⟩ = some (.int .i64 5) := (blk_cell m1 0).trans rfl
      simp [Leaves, settle, results, Try.results12, go_sem, v0, m2]

    have hb := hpr j (by omega)
    have p9 : 0 ≤ (j : Int) := by omega
    have q9 : (j : Int) < (s.size : Int) := by omega
    have hx9 := bt_at s (j : Int)
    have q9' := q9
    replace p9 := eq_true p9
    replace q9 := eq_true q9
    have hjs : j < s.size := by omega
    have hbt : bt s (j : Int) = ((s[j]'hjs).toNat : Int) := by simp [bt, hjs]
    rw [hbt] at hb
    clear hx9
    go_wp2_with fail
    (with_reducible refine (header_printable.calls _ _ _ (prb_calls _)).mono ?_)
    rintro e' w' ⟨rfl, ⟨nd, rfl⟩⟩
    rw [hb]
    go_wp2_with fail
    refine (need_ok 1 _).mono ?_
    rintro e' w' ⟨rfl, rfl⟩
    go_wp2_with fail
    exact ⟨⟨j + 1, by simp, Aside0.mk ⟨by omega, blk_drewN z1 nd, pw_below_drewN z2 nd⟩⟩, by simp [intOf]; omega⟩
end Go.Proofs.Ytmlpijlnchnabaa.Hand
