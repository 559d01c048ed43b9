/- header.Parse by hand: an image of a kind that there isn't -/
import Derived.Test.YtmlpijlnchnabaaHCatch
import Derived.Test.YtmlpijlnchnabaaHSum0
import Derived.Test.YtmlpijlnchnabaaHWare
import Derived.Test.YtmlpijlnchnabaaG4
import Derived.Test.YtmlpijlnchnabaaG6
import Derived.Deep.MidRow
import Derived.BigRegion
import Derived.StillTailTactics
import Derived.Handy
namespace Go.Proofs.Ytmlpijlnchnabaa.Hand
open Go.RowKit
open Go.Proofs.Ytmlpijlnchnabaa.G
open Go.Proofs.YtmlpijlnchnabaaW.PrintWords Go.Proofs.YtmlpijlnchnabaaW.PrintLast Go.Proofs.YtmlpijlnchnabaaW.PrintMore
set_option linter.unusedVariables false
set_option linter.unusedSimpArgs false
set_option maxRecDepth 100000 in
set_option maxHeartbeats 4000000 in
theorem hparse_kind (A : Option Addr) (c : Nat) (l : List Int) (hl : 336 ≤ l.length) (w : World) (hr : Kd.C (Kd.int .u8) w A l.length l) (hc : l.length ≤ c) (hk : 0 ≤ rd l 327 ∧ rd l 327 ≤ 255) (hok : (wareT (rd l 327)).2.2.2.2 = false) :
    Calls Try.prog 10 #[.slice A l.length c] w fun e' w' => e' = .returned (.tuple #[.agg #[.string ⟨#[]⟩, .int .u8 0, .int .i64 0, .bool false, .bool false, .bool false, .int .i64 0, .int .i64 0, .int .u8 0, .int .u16 0], .int .i64 4]) ∧ Below w.heap.size w w' := by
  have hmf : ∀ (fn : Fn) (first cap : Array Value) (w : World), (Instr.makeFunc fn first cap).run Try.prog w = .ok (.func fn first cap) w := fun _ _ _ _ => rfl
  obtain ⟨ad, rfl, _⟩ := Kd.at_int hr 0 (by omega) (by omega)
  have HR := Aside0.mk hr
  have hli : (336 : Int) ≤ l.length := by omega
  have hci : (336 : Int) ≤ c := by omega
  clear hr
  go_enter_defers Try.func10, Try.ntmps10
  go_wp2_with fail
  have z0 := blk_alloc (blk_new w (.cells #[.string ⟨#[]⟩, .int .u8 0, .int .i64 0, .bool false, .bool false, .bool false, .int .i64 0, .int .i64 0, .int .u8 0, .int .u16 0] 26)) (.cells #[.int .i64 0] 27)
  have z1 := heap_alloc_new (w.alloc (.cells #[.string ⟨#[]⟩, .int .u8 0, .int .i64 0, .bool false, .bool false, .bool false, .int .i64 0, .int .i64 0, .int .u8 0, .int .u16 0] 26)) (.cells #[.int .i64 0] 27)
  rw [show (w.alloc (.cells #[.string ⟨#[]⟩, .int .u8 0, .int .i64 0, .bool false, .bool false, .bool false, .int .i64 0, .int .i64 0, .int .u8 0, .int .u16 0] 26)).heap.size = w.heap.size + 1 by simp] at z1
  have z2 := below_alloc (below_alloc (Below.refl w.heap.size w) (.cells #[.string ⟨#[]⟩, .int .u8 0, .int .i64 0, .bool false, .bool false, .bool false, .int .i64 0, .int .i64 0, .int .u8 0, .int .u16 0] 26)) (.cells #[.int .i64 0] 27)
  generalize (w.alloc (.cells #[.string ⟨#[]⟩, .int .u8 0, .int .i64 0, .bool false, .bool false, .bool false, .int .i64 0, .int .i64 0, .int .u8 0, .int .u16 0] 26)).alloc (.cells #[.int .i64 0] 27) = W0 at z0 z1 z2 ⊢
  refine (need_ok 2 _).mono ?_
  rintro e' w' ⟨rfl, hw⟩
  replace hw := hw.symm
  subst hw
  obtain ⟨ad', ea, c327⟩ := Kd.at_int (Kd.C_below HR.out z2) 327 (by omega) (by omega)
  obtain rfl := Option.some.inj ea
  clear ea
  replace c327 : W0.cell? ⟨ad.block, ad.off + 327, none⟩ = some (.int .u8 (rd l 327)) := c327
  go_wp2_with fail
  refine (header_ware.calls (rd l 327) hk _).mono ?_
  rintro e' w1 ⟨rfl, hb⟩
  have B0 := Aside0.mk (blk_below z0 hb)
  have B1 := Aside0.mk (blk_below z1 hb)
  have B2 := Aside0.mk (Below.trans z2 (hb.mono z2.size))
  clear z0 z1 z2 hb c327
  rw [hok]
  go_wp2_with fail
  refine (need_no 4 _).mono ?_
  rintro e' w' ⟨rfl, rfl⟩
  have C0 := blk_alloc B0.out (.cells #[.string ⟨#[]⟩, .int .u8 0, .int .i64 (wareT (rd l 327)).1, .bool (wareT (rd l 327)).2.1, .bool (wareT (rd l 327)).2.2.1, .bool (wareT (rd l 327)).2.2.2.1, .int .i64 0, .int .i64 0, .int .u8 0, .int .u16 0] 26)
  have C1 := blk_alloc B1.out (.cells #[.string ⟨#[]⟩, .int .u8 0, .int .i64 (wareT (rd l 327)).1, .bool (wareT (rd l 327)).2.1, .bool (wareT (rd l 327)).2.2.1, .bool (wareT (rd l 327)).2.2.2.1, .int .i64 0, .int .i64 0, .int .u8 0, .int .u16 0] 26)
  have C2 := below_alloc B2.out (.cells #[.string ⟨#[]⟩, .int .u8 0, .int .i64 (wareT (rd l 327)).1, .bool (wareT (rd l 327)).2.1, .bool (wareT (rd l 327)).2.2.1, .bool (wareT (rd l 327)).2.2.2.1, .int .i64 0, .int .i64 0, .int .u8 0, .int .u16 0] 26)
  generalize w1.alloc (.cells #[.string ⟨#[]⟩, .int .u8 0, .int .i64 (wareT (rd l 327)).1, .bool (wareT (rd l 327)).2.1, .bool (wareT (rd l 327)).2.2.1, .bool (wareT (rd l 327)).2.2.2.1, .int .i64 0, .int .i64 0, .int .u8 0, .int .u16 0] 26) = W1 at C0 C1 C2 ⊢
  refine leaves_cons (f := 18) (args := #[.pointer (some ⟨w.heap.size + 1, 0, none⟩)]) (by simp) (by simp [go_sem]) ?_
  refine (parse_panicking ⟨w.heap.size + 1, 0, none⟩ 0 4 [] _ ((blk_cell (C1) 0).trans rfl) (blk_frozen (C1) 0)).mono ?_
  rintro e u' w'' ⟨rfl, rfl, rfl⟩
  have m0 : ((W1).setCell ⟨w.heap.size + 1, 0, none⟩ (.int .i64 4)).heap[w.heap.size]? = some (.cells #[.string ⟨#[]⟩, .int .u8 0, .int .i64 0, .bool false, .bool false, .bool false, .int .i64 0, .int .i64 0, .int .u8 0, .int .u16 0] 26 (0, 0)) := blk_far (C0) (by simp) _
  have m1 : ((W1).setCell ⟨w.heap.size + 1, 0, none⟩ (.int .i64 4)).heap[w.heap.size + 1]? = some (.cells #[.int .i64 4] 27 (0, 0)) := blk_put (C1) 0 _ rfl
  have m2 : Below w.heap.size w ((W1).setCell ⟨w.heap.size + 1, 0, none⟩ (.int .i64 4)) := below_set (C2) (Nat.le_succ _)
  generalize ((W1).setCell ⟨w.heap.size + 1, 0, none⟩ (.int .i64 4)) = Y at m0 m1 m2 ⊢
  have u0 : Y.cell? ⟨w.heap.size, 0, none⟩ = some (.string ⟨#[]⟩) := (blk_cell m0 0).trans rfl
  have u1 : Y.cell? ⟨w.heap.size, 1, none⟩ = some (.int .u8 0) := (blk_cell m0 1).trans rfl
  have u2 : Y.cell? ⟨w.heap.size, 2, none⟩ = some (.int .i64 0) := (blk_cell m0 2).trans rfl
  have u3 : Y.cell? ⟨w.heap.size, 3, none⟩ = some (.bool false) := (blk_cell m0 3).trans rfl
  have u4 : Y.cell? ⟨w.heap.size, 4, none⟩ = some (.bool false) := (blk_cell m0 4).trans rfl
  have u5 : Y.cell? ⟨w.heap.size, 5, none⟩ = some (.bool false) := (blk_cell m0 5).trans rfl
  have u6 : Y.cell? ⟨w.heap.size, 6, none⟩ = some (.int .i64 0) := (blk_cell m0 6).trans rfl
  have u7 : Y.cell? ⟨w.heap.size, 7, none⟩ = some (.int .i64 0) := (blk_cell m0 7).trans rfl
  have u8 : Y.cell? ⟨w.heap.size, 8, none⟩ = some (.int .u8 0) := (blk_cell m0 8).trans rfl
  have u9 : Y.cell? ⟨w.heap.size, 9, none⟩ = some (.int .u16 0) := (blk_cell m0 9).trans rfl
  have v0 : Y.cell? ⟨w.heap.size + 1, 0, none⟩ = some (.int .i64 4) := (blk_cell m1 0).trans rfl
  simp [Leaves, settle, results, Try.results10, go_sem, u0, u1, u2, u3, u4, u5, u6, u7, u8, u9, v0, m2]
set_option maxRecDepth 100000 in
set_option maxHeartbeats 4000000 in
theorem hparse_size_a (A : Option Addr) (c : Nat) (l : List Int) (hl : 336 ≤ l.length) (w : World) (hr : Kd.C (Kd.int .u8) w A l.length l) (hc : l.length ≤ c) (hk : 0 ≤ rd l 327 ∧ rd l 327 ≤ 255) (hok : (wareT (rd l 327)).2.2.2.2 = true) (h8 : decide (rd l 328 ≤ 8) = false) :
    Calls Try.prog 10 #[.slice A l.length c] w fun e' w' => e' = .returned (.tuple #[.agg #[.string ⟨#[]⟩, .int .u8 0, .int .i64 0, .bool false, .bool false, .bool false, .int .i64 0, .int .i64 0, .int .u8 0, .int .u16 0], .int .i64 5]) ∧ Below w.heap.size w w' := by
  have hmf : ∀ (fn : Fn) (first cap : Array Value) (w : World), (Instr.makeFunc fn first cap).run Try.prog w = .ok (.func fn first cap) w := fun _ _ _ _ => rfl
  obtain ⟨ad, rfl, _⟩ := Kd.at_int hr 0 (by omega) (by omega)
  have HR := Aside0.mk hr
  have hli : (336 : Int) ≤ l.length := by omega
  have hci : (336 : Int) ≤ c := by omega
  clear hr
  go_enter_defers Try.func10, Try.ntmps10
  go_wp2_with fail
  have z0 := blk_alloc (blk_new w (.cells #[.string ⟨#[]⟩, .int .u8 0, .int .i64 0, .bool false, .bool false, .bool false, .int .i64 0, .int .i64 0, .int .u8 0, .int .u16 0] 26)) (.cells #[.int .i64 0] 27)
  have z1 := heap_alloc_new (w.alloc (.cells #[.string ⟨#[]⟩, .int .u8 0, .int .i64 0, .bool false, .bool false, .bool false, .int .i64 0, .int .i64 0, .int .u8 0, .int .u16 0] 26)) (.cells #[.int .i64 0] 27)
  rw [show (w.alloc (.cells #[.string ⟨#[]⟩, .int .u8 0, .int .i64 0, .bool false, .bool false, .bool false, .int .i64 0, .int .i64 0, .int .u8 0, .int .u16 0] 26)).heap.size = w.heap.size + 1 by simp] at z1
  have z2 := below_alloc (below_alloc (Below.refl w.heap.size w) (.cells #[.string ⟨#[]⟩, .int .u8 0, .int .i64 0, .bool false, .bool false, .bool false, .int .i64 0, .int .i64 0, .int .u8 0, .int .u16 0] 26)) (.cells #[.int .i64 0] 27)
  generalize (w.alloc (.cells #[.string ⟨#[]⟩, .int .u8 0, .int .i64 0, .bool false, .bool false, .bool false, .int .i64 0, .int .i64 0, .int .u8 0, .int .u16 0] 26)).alloc (.cells #[.int .i64 0] 27) = W0 at z0 z1 z2 ⊢
  refine (need_ok 2 _).mono ?_
  rintro e' w' ⟨rfl, hw⟩
  replace hw := hw.symm
  subst hw
  obtain ⟨ad', ea, c327⟩ := Kd.at_int (Kd.C_below HR.out z2) 327 (by omega) (by omega)
  obtain rfl := Option.some.inj ea
  clear ea
  replace c327 : W0.cell? ⟨ad.block, ad.off + 327, none⟩ = some (.int .u8 (rd l 327)) := c327
  go_wp2_with fail
  refine (header_ware.calls (rd l 327) hk _).mono ?_
  rintro e' w1 ⟨rfl, hb⟩
  have B0 := Aside0.mk (blk_below z0 hb)
  have B1 := Aside0.mk (blk_below z1 hb)
  have B2 := Aside0.mk (Below.trans z2 (hb.mono z2.size))
  clear z0 z1 z2 hb c327
  rw [hok]
  go_wp2_with fail
  refine (need_ok 4 _).mono ?_
  rintro e' w' ⟨rfl, rfl⟩
  have hg : w.heap.size + 1 < w1.heap.size := blk_lt B1.out
  have C0 := Aside0.mk (blk_alloc B0.out (.cells #[.string ⟨#[]⟩, .int .u8 (rd l 327), .int .i64 (wareT (rd l 327)).1, .bool (wareT (rd l 327)).2.1, .bool (wareT (rd l 327)).2.2.1, .bool (wareT (rd l 327)).2.2.2.1, .int .i64 0, .int .i64 0, .int .u8 0, .int .u16 0] 26))
  have C1 := Aside0.mk (blk_alloc B1.out (.cells #[.string ⟨#[]⟩, .int .u8 (rd l 327), .int .i64 (wareT (rd l 327)).1, .bool (wareT (rd l 327)).2.1, .bool (wareT (rd l 327)).2.2.1, .bool (wareT (rd l 327)).2.2.2.1, .int .i64 0, .int .i64 0, .int .u8 0, .int .u16 0] 26))
  have C2 := Aside0.mk (below_alloc B2.out (.cells #[.string ⟨#[]⟩, .int .u8 (rd l 327), .int .i64 (wareT (rd l 327)).1, .bool (wareT (rd l 327)).2.1, .bool (wareT (rd l 327)).2.2.1, .bool (wareT (rd l 327)).2.2.2.1, .int .i64 0, .int .i64 0, .int .u8 0, .int .u16 0] 26))
  have C3 := Aside0.mk (heap_alloc_new w1 (.cells #[.string ⟨#[]⟩, .int .u8 (rd l 327), .int .i64 (wareT (rd l 327)).1, .bool (wareT (rd l 327)).2.1, .bool (wareT (rd l 327)).2.2.1, .bool (wareT (rd l 327)).2.2.2.1, .int .i64 0, .int .i64 0, .int .u8 0, .int .u16 0] 26))
  generalize w1.alloc (.cells #[.string ⟨#[]⟩, .int .u8 (rd l 327), .int .i64 (wareT (rd l 327)).1, .bool (wareT (rd l 327)).2.1, .bool (wareT (rd l 327)).2.2.1, .bool (wareT (rd l 327)).2.2.2.1, .int .i64 0, .int .i64 0, .int .u8 0, .int .u16 0] 26) = W1 at C0 C1 C2 C3 ⊢
  generalize w1.heap.size = gx at hg C3 ⊢
  clear B0 B1 B2
  dsimp only
  obtain ⟨ad', ea, c328⟩ := Kd.at_int (Kd.C_below HR.out C2.out) 328 (by omega) (by omega)
  obtain rfl := Option.some.inj ea
  clear ea
  replace c328 : W1.cell? ⟨ad.block, ad.off + 328, none⟩ = some (.int .u8 (rd l 328)) := c328
  obtain ⟨ad', ea, c329⟩ := Kd.at_int (Kd.C_below HR.out C2.out) 329 (by omega) (by omega)
  obtain rfl := Option.some.inj ea
  clear ea
  replace c329 : W1.cell? ⟨ad.block, ad.off + 329, none⟩ = some (.int .u8 (rd l 329)) := c329
  go_wp2_with fail
  go_quiet (fail)
  go_wp2_with fail
  refine (need_no 5 _).mono ?_
  rintro e' w' ⟨rfl, rfl⟩
  have D0 := blk_drewN (C0.out) nq
  have D1 := blk_drewN (C1.out) nq
  have D2 := pw_below_drewN C2.out nq
  generalize W1.drewN nq = W2 at D0 D1 D2 ⊢
  refine leaves_cons (f := 18) (args := #[.pointer (some ⟨w.heap.size + 1, 0, none⟩)]) (by simp) (by simp [go_sem]) ?_
  refine (parse_panicking ⟨w.heap.size + 1, 0, none⟩ 0 5 [] _ ((blk_cell (D1) 0).trans rfl) (blk_frozen (D1) 0)).mono ?_
  rintro e u' w'' ⟨rfl, rfl, rfl⟩
  have m0 : ((W2).setCell ⟨w.heap.size + 1, 0, none⟩ (.int .i64 5)).heap[w.heap.size]? = some (.cells #[.string ⟨#[]⟩, .int .u8 0, .int .i64 0, .bool false, .bool false, .bool false, .int .i64 0, .int .i64 0, .int .u8 0, .int .u16 0] 26 (0, 0)) := blk_far (D0) (by simp) _
  have m1 : ((W2).setCell ⟨w.heap.size + 1, 0, none⟩ (.int .i64 5)).heap[w.heap.size + 1]? = some (.cells #[.int .i64 5] 27 (0, 0)) := blk_put (D1) 0 _ rfl
  have m2 : Below w.heap.size w ((W2).setCell ⟨w.heap.size + 1, 0, none⟩ (.int .i64 5)) := below_set (D2) (Nat.le_succ _)
  generalize ((W2).setCell ⟨w.heap.size + 1, 0, none⟩ (.int .i64 5)) = Y at m0 m1 m2 ⊢
  have u0 : Y.cell? ⟨w.heap.size, 0, none⟩ = some (.string ⟨#[]⟩) := (blk_cell m0 0).trans rfl
  have u1 : Y.cell? ⟨w.heap.size, 1, none⟩ = some (.int .u8 0) := (blk_cell m0 1).trans rfl
  have u2 : Y.cell? ⟨w.heap.size, 2, none⟩ = some (.int .i64 0) := (blk_cell m0 2).trans rfl
  have u3 : Y.cell? ⟨w.heap.size, 3, none⟩ = some (.bool false) := (blk_cell m0 3).trans rfl
  have u4 : Y.cell? ⟨w.heap.size, 4, none⟩ = some (.bool false) := (blk_cell m0 4).trans rfl
  have u5 : Y.cell? ⟨w.heap.size, 5, none⟩ = some (.bool false) := (blk_cell m0 5).trans rfl
  have u6 : Y.cell? ⟨w.heap.size, 6, none⟩ = some (.int .i64 0) := (blk_cell m0 6).trans rfl
  have u7 : Y.cell? ⟨w.heap.size, 7, none⟩ = some (.int .i64 0) := (blk_cell m0 7).trans rfl
  have u8 : Y.cell? ⟨w.heap.size, 8, none⟩ = some (.int .u8 0) := (blk_cell m0 8).trans rfl
  have u9 : Y.cell? ⟨w.heap.size, 9, none⟩ = some (.int .u16 0) := (blk_cell m0 9).trans rfl
  have v0 : Y.cell? ⟨w.heap.size + 1, 0, none⟩ = some (.int .i64 5) := (blk_cell m1 0).trans rfl
  simp [Leaves, settle, results, Try.results10, go_sem, u0, u1, u2, u3, u4, u5, u6, u7, u8, u9, v0, m2]
set_option maxRecDepth 100000 in
set_option maxHeartbeats 4000000 in
theorem hparse_size_b (A : Option Addr) (c : Nat) (l : List Int) (hl : 336 ≤ l.length) (w : World) (hr : Kd.C (Kd.int .u8) w A l.length l) (hc : l.length ≤ c) (hk : 0 ≤ rd l 327 ∧ rd l 327 ≤ 255) (hok : (wareT (rd l 327)).2.2.2.2 = true) (h8 : decide (rd l 328 ≤ 8) = true) (h5 : decide (rd l 329 ≤ 5) = false) :
    Calls Try.prog 10 #[.slice A l.length c] w fun e' w' => e' = .returned (.tuple #[.agg #[.string ⟨#[]⟩, .int .u8 0, .int .i64 0, .bool false, .bool false, .bool false, .int .i64 0, .int .i64 0, .int .u8 0, .int .u16 0], .int .i64 5]) ∧ Below w.heap.size w w' := by
  have hmf : ∀ (fn : Fn) (first cap : Array Value) (w : World), (Instr.makeFunc fn first cap).run Try.prog w = .ok (.func fn first cap) w := fun _ _ _ _ => rfl
  obtain ⟨ad, rfl, _⟩ := Kd.at_int hr 0 (by omega) (by omega)
  have HR := Aside0.mk hr
  have hli : (336 : Int) ≤ l.length := by omega
  have hci : (336 : Int) ≤ c := by omega
  clear hr
  go_enter_defers Try.func10, Try.ntmps10
  go_wp2_with fail
  have z0 := blk_alloc (blk_new w (.cells #[.string ⟨#[]⟩, .int .u8 0, .int .i64 0, .bool false, .bool false, .bool false, .int .i64 0, .int .i64 0, .int .u8 0, .int .u16 0] 26)) (.cells #[.int .i64 0] 27)
  have z1 := heap_alloc_new (w.alloc (.cells #[.string ⟨#[]⟩, .int .u8 0, .int .i64 0, .bool false, .bool false, .bool false, .int .i64 0, .int .i64 0, .int .u8 0, .int .u16 0] 26)) (.cells #[.int .i64 0] 27)
  rw [show (w.alloc (.cells #[.string ⟨#[]⟩, .int .u8 0, .int .i64 0, .bool false, .bool false, .bool false, .int .i64 0, .int .i64 0, .int .u8 0, .int .u16 0] 26)).heap.size = w.heap.size + 1 by simp] at z1
  have z2 := below_alloc (below_alloc (Below.refl w.heap.size w) (.cells #[.string ⟨#[]⟩, .int .u8 0, .int .i64 0, .bool false, .bool false, .bool false, .int .i64 0, .int .i64 0, .int .u8 0, .int .u16 0] 26)) (.cells #[.int .i64 0] 27)
  generalize (w.alloc (.cells #[.string ⟨#[]⟩, .int .u8 0, .int .i64 0, .bool false, .bool false, .bool false, .int .i64 0, .int .i64 0, .int .u8 0, .int .u16 0] 26)).alloc (.cells #[.int .i64 0] 27) = W0 at z0 z1 z2 ⊢
  refine (need_ok 2 _).mono ?_
  rintro e' w' ⟨rfl, hw⟩
  replace hw := hw.symm
  subst hw
  obtain ⟨ad', ea, c327⟩ := Kd.at_int (Kd.C_below HR.out z2) 327 (by omega) (by omega)
  obtain rfl := Option.some.inj ea
  clear ea
  replace c327 : W0.cell? ⟨ad.block, ad.off + 327, none⟩ = some (.int .u8 (rd l 327)) := c327
  go_wp2_with fail
  refine (header_ware.calls (rd l 327) hk _).mono ?_
  rintro e' w1 ⟨rfl, hb⟩
  have B0 := Aside0.mk (blk_below z0 hb)
  have B1 := Aside0.mk (blk_below z1 hb)
  have B2 := Aside0.mk (Below.trans z2 (hb.mono z2.size))
  clear z0 z1 z2 hb c327
  rw [hok]
  go_wp2_with fail
  refine (need_ok 4 _).mono ?_
  rintro e' w' ⟨rfl, rfl⟩
  have hg : w.heap.size + 1 < w1.heap.size := blk_lt B1.out
  have C0 := Aside0.mk (blk_alloc B0.out (.cells #[.string ⟨#[]⟩, .int .u8 (rd l 327), .int .i64 (wareT (rd l 327)).1, .bool (wareT (rd l 327)).2.1, .bool (wareT (rd l 327)).2.2.1, .bool (wareT (rd l 327)).2.2.2.1, .int .i64 0, .int .i64 0, .int .u8 0, .int .u16 0] 26))
  have C1 := Aside0.mk (blk_alloc B1.out (.cells #[.string ⟨#[]⟩, .int .u8 (rd l 327), .int .i64 (wareT (rd l 327)).1, .bool (wareT (rd l 327)).2.1, .bool (wareT (rd l 327)).2.2.1, .bool (wareT (rd l 327)).2.2.2.1, .int .i64 0, .int .i64 0, .int .u8 0, .int .u16 0] 26))
  have C2 := Aside0.mk (below_alloc B2.out (.cells #[.string ⟨#[]⟩, .int .u8 (rd l 327), .int .i64 (wareT (rd l 327)).1, .bool (wareT (rd l 327)).2.1, .bool (wareT (rd l 327)).2.2.1, .bool (wareT (rd l 327)).2.2.2.1, .int .i64 0, .int .i64 0, .int .u8 0, .int .u16 0] 26))
  have C3 := Aside0.mk (heap_alloc_new w1 (.cells #[.string ⟨#[]⟩, .int .u8 (rd l 327), .int .i64 (wareT (rd l 327)).1, .bool (wareT (rd l 327)).2.1, .bool (wareT (rd l 327)).2.2.1, .bool (wareT (rd l 327)).2.2.2.1, .int .i64 0, .int .i64 0, .int .u8 0, .int .u16 0] 26))
  generalize w1.alloc (.cells #[.string ⟨#[]⟩, .int .u8 (rd l 327), .int .i64 (wareT (rd l 327)).1, .bool (wareT (rd l 327)).2.1, .bool (wareT (rd l 327)).2.2.1, .bool (wareT (rd l 327)).2.2.2.1, .int .i64 0, .int .i64 0, .int .u8 0, .int .u16 0] 26) = W1 at C0 C1 C2 C3 ⊢
  generalize w1.heap.size = gx at hg C3 ⊢
  clear B0 B1 B2
  dsimp only
  obtain ⟨ad', ea, c328⟩ := Kd.at_int (Kd.C_below HR.out C2.out) 328 (by omega) (by omega)
  obtain rfl := Option.some.inj ea
  clear ea
  replace c328 : W1.cell? ⟨ad.block, ad.off + 328, none⟩ = some (.int .u8 (rd l 328)) := c328
  obtain ⟨ad', ea, c329⟩ := Kd.at_int (Kd.C_below HR.out C2.out) 329 (by omega) (by omega)
  obtain rfl := Option.some.inj ea
  clear ea
  replace c329 : W1.cell? ⟨ad.block, ad.off + 329, none⟩ = some (.int .u8 (rd l 329)) := c329
  go_wp2_with fail
  go_quiet (fail)
  go_wp2_with fail
  refine (need_no 5 _).mono ?_
  rintro e' w' ⟨rfl, rfl⟩
  have D0 := blk_drewN (C0.out) nq
  have D1 := blk_drewN (C1.out) nq
  have D2 := pw_below_drewN C2.out nq
  generalize W1.drewN nq = W2 at D0 D1 D2 ⊢
  refine leaves_cons (f := 18) (args := #[.pointer (some ⟨w.heap.size + 1, 0, none⟩)]) (by simp) (by simp [go_sem]) ?_
  refine (parse_panicking ⟨w.heap.size + 1, 0, none⟩ 0 5 [] _ ((blk_cell (D1) 0).trans rfl) (blk_frozen (D1) 0)).mono ?_
  rintro e u' w'' ⟨rfl, rfl, rfl⟩
  have m0 : ((W2).setCell ⟨w.heap.size + 1, 0, none⟩ (.int .i64 5)).heap[w.heap.size]? = some (.cells #[.string ⟨#[]⟩, .int .u8 0, .int .i64 0, .bool false, .bool false, .bool false, .int .i64 0, .int .i64 0, .int .u8 0, .int .u16 0] 26 (0, 0)) := blk_far (D0) (by simp) _
  have m1 : ((W2).setCell ⟨w.heap.size + 1, 0, none⟩ (.int .i64 5)).heap[w.heap.size + 1]? = some (.cells #[.int .i64 5] 27 (0, 0)) := blk_put (D1) 0 _ rfl
  have m2 : Below w.heap.size w ((W2).setCell ⟨w.heap.size + 1, 0, none⟩ (.int .i64 5)) := below_set (D2) (Nat.le_succ _)
  generalize ((W2).setCell ⟨w.heap.size + 1, 0, none⟩ (.int .i64 5)) = Y at m0 m1 m2 ⊢
  have u0 : Y.cell? ⟨w.heap.size, 0, none⟩ = some (.string ⟨#[]⟩) := (blk_cell m0 0).trans rfl
  have u1 : Y.cell? ⟨w.heap.size, 1, none⟩ = some (.int .u8 0) := (blk_cell m0 1).trans rfl
  have u2 : Y.cell? ⟨w.heap.size, 2, none⟩ = some (.int .i64 0) := (blk_cell m0 2).trans rfl
  have u3 : Y.cell? ⟨w.heap.size, 3, none⟩ = some (.bool false) := (blk_cell m0 3).trans rfl
  have u4 : Y.cell? ⟨w.heap.size, 4, none⟩ = some (.bool false) := (blk_cell m0 4).trans rfl
  have u5 : Y.cell? ⟨w.heap.size, 5, none⟩ = some (.bool false) := (blk_cell m0 5).trans rfl
  have u6 : Y.cell? ⟨w.heap.size, 6, none⟩ = some (.int .i64 0) := (blk_cell m0 6).trans rfl
  have u7 : Y.cell? ⟨w.heap.size, 7, none⟩ = some (.int .i64 0) := (blk_cell m0 7).trans rfl
  have u8 : Y.cell? ⟨w.heap.size, 8, none⟩ = some (.int .u8 0) := (blk_cell m0 8).trans rfl
  have u9 : Y.cell? ⟨w.heap.size, 9, none⟩ = some (.int .u16 0) := (blk_cell m0 9).trans rfl
  have v0 : Y.cell? ⟨w.heap.size + 1, 0, none⟩ = some (.int .i64 5) := (blk_cell m1 0).trans rfl
  simp [Leaves, settle, results, Try.results10, go_sem, u0, u1, u2, u3, u4, u5, u6, u7, u8, u9, v0, m2]
set_option maxRecDepth 100000 in
set_option maxHeartbeats 4000000 in
theorem hparse_size_c (A : Option Addr) (c : Nat) (l : List Int) (hl : 336 ≤ l.length) (w : World) (hr : Kd.C (Kd.int .u8) w A l.length l) (hc : l.length ≤ c) (hk : 0 ≤ rd l 327 ∧ rd l 327 ≤ 255) (hok : (wareT (rd l 327)).2.2.2.2 = true) (h80 : 0 ≤ rd l 328) (h8 : decide (rd l 328 ≤ 8) = true) (h5 : decide (rd l 329 ≤ 5) = true) (hm : decide ((l.length : Int) ≤ shl .i64 32768 (rd l 328)) = false) :
    Calls Try.prog 10 #[.slice A l.length c] w fun e' w' => e' = .returned (.tuple #[.agg #[.string ⟨#[]⟩, .int .u8 0, .int .i64 0, .bool false, .bool false, .bool false, .int .i64 0, .int .i64 0, .int .u8 0, .int .u16 0], .int .i64 5]) ∧ Below w.heap.size w w' := by
  have hmf : ∀ (fn : Fn) (first cap : Array Value) (w : World), (Instr.makeFunc fn first cap).run Try.prog w = .ok (.func fn first cap) w := fun _ _ _ _ => rfl
  obtain ⟨ad, rfl, _⟩ := Kd.at_int hr 0 (by omega) (by omega)
  have HR := Aside0.mk hr
  have hli : (336 : Int) ≤ l.length := by omega
  have hci : (336 : Int) ≤ c := by omega
  clear hr
  go_enter_defers Try.func10, Try.ntmps10
  go_wp2_with fail
  have z0 := blk_alloc (blk_new w (.cells #[.string ⟨#[]⟩, .int .u8 0, .int .i64 0, .bool false, .bool false, .bool false, .int .i64 0, .int .i64 0, .int .u8 0, .int .u16 0] 26)) (.cells #[.int .i64 0] 27)
  have z1 := heap_alloc_new (w.alloc (.cells #[.string ⟨#[]⟩, .int .u8 0, .int .i64 0, .bool false, .bool false, .bool false, .int .i64 0, .int .i64 0, .int .u8 0, .int .u16 0] 26)) (.cells #[.int .i64 0] 27)
  rw [show (w.alloc (.cells #[.string ⟨#[]⟩, .int .u8 0, .int .i64 0, .bool false, .bool false, .bool false, .int .i64 0, .int .i64 0, .int .u8 0, .int .u16 0] 26)).heap.size = w.heap.size + 1 by simp] at z1
  have z2 := below_alloc (below_alloc (Below.refl w.heap.size w) (.cells #[.string ⟨#[]⟩, .int .u8 0, .int .i64 0, .bool false, .bool false, .bool false, .int .i64 0, .int .i64 0, .int .u8 0, .int .u16 0] 26)) (.cells #[.int .i64 0] 27)
  generalize (w.alloc (.cells #[.string ⟨#[]⟩, .int .u8 0, .int .i64 0, .bool false, .bool false, .bool false, .int .i64 0, .int .i64 0, .int .u8 0, .int .u16 0] 26)).alloc (.cells #[.int .i64 0] 27) = W0 at z0 z1 z2 ⊢
  refine (need_ok 2 _).mono ?_
  rintro e' w' ⟨rfl, hw⟩
  replace hw := hw.symm
  subst hw
  obtain ⟨ad', ea, c327⟩ := Kd.at_int (Kd.C_below HR.out z2) 327 (by omega) (by omega)
  obtain rfl := Option.some.inj ea
  clear ea
  replace c327 : W0.cell? ⟨ad.block, ad.off + 327, none⟩ = some (.int .u8 (rd l 327)) := c327
  go_wp2_with fail
  refine (header_ware.calls (rd l 327) hk _).mono ?_
  rintro e' w1 ⟨rfl, hb⟩
  have B0 := Aside0.mk (blk_below z0 hb)
  have B1 := Aside0.mk (blk_below z1 hb)
  have B2 := Aside0.mk (Below.trans z2 (hb.mono z2.size))
  clear z0 z1 z2 hb c327
  rw [hok]
  go_wp2_with fail
  refine (need_ok 4 _).mono ?_
  rintro e' w' ⟨rfl, rfl⟩
  have hg : w.heap.size + 1 < w1.heap.size := blk_lt B1.out
  have C0 := Aside0.mk (blk_alloc B0.out (.cells #[.string ⟨#[]⟩, .int .u8 (rd l 327), .int .i64 (wareT (rd l 327)).1, .bool (wareT (rd l 327)).2.1, .bool (wareT (rd l 327)).2.2.1, .bool (wareT (rd l 327)).2.2.2.1, .int .i64 0, .int .i64 0, .int .u8 0, .int .u16 0] 26))
  have C1 := Aside0.mk (blk_alloc B1.out (.cells #[.string ⟨#[]⟩, .int .u8 (rd l 327), .int .i64 (wareT (rd l 327)).1, .bool (wareT (rd l 327)).2.1, .bool (wareT (rd l 327)).2.2.1, .bool (wareT (rd l 327)).2.2.2.1, .int .i64 0, .int .i64 0, .int .u8 0, .int .u16 0] 26))
  have C2 := Aside0.mk (below_alloc B2.out (.cells #[.string ⟨#[]⟩, .int .u8 (rd l 327), .int .i64 (wareT (rd l 327)).1, .bool (wareT (rd l 327)).2.1, .bool (wareT (rd l 327)).2.2.1, .bool (wareT (rd l 327)).2.2.2.1, .int .i64 0, .int .i64 0, .int .u8 0, .int .u16 0] 26))
  have C3 := Aside0.mk (heap_alloc_new w1 (.cells #[.string ⟨#[]⟩, .int .u8 (rd l 327), .int .i64 (wareT (rd l 327)).1, .bool (wareT (rd l 327)).2.1, .bool (wareT (rd l 327)).2.2.1, .bool (wareT (rd l 327)).2.2.2.1, .int .i64 0, .int .i64 0, .int .u8 0, .int .u16 0] 26))
  generalize w1.alloc (.cells #[.string ⟨#[]⟩, .int .u8 (rd l 327), .int .i64 (wareT (rd l 327)).1, .bool (wareT (rd l 327)).2.1, .bool (wareT (rd l 327)).2.2.1, .bool (wareT (rd l 327)).2.2.2.1, .int .i64 0, .int .i64 0, .int .u8 0, .int .u16 0] 26) = W1 at C0 C1 C2 C3 ⊢
  generalize w1.heap.size = gx at hg C3 ⊢
  clear B0 B1 B2
  dsimp only
  obtain ⟨ad', ea, c328⟩ := Kd.at_int (Kd.C_below HR.out C2.out) 328 (by omega) (by omega)
  obtain rfl := Option.some.inj ea
  clear ea
  replace c328 : W1.cell? ⟨ad.block, ad.off + 328, none⟩ = some (.int .u8 (rd l 328)) := c328
  obtain ⟨ad', ea, c329⟩ := Kd.at_int (Kd.C_below HR.out C2.out) 329 (by omega) (by omega)
  obtain rfl := Option.some.inj ea
  clear ea
  replace c329 : W1.cell? ⟨ad.block, ad.off + 329, none⟩ = some (.int .u8 (rd l 329)) := c329
  go_wp2_with fail
  go_quiet (fail)
  go_wp2_with fail
  (with_reducible refine (header_most.calls (rd l 328) _ _ (by unfold header_most.f; rw [if_pos h80])).mono ?_)
  rintro e' w' ⟨rfl, ⟨nd, rfl⟩⟩
  go_wp2_with fail
  refine (need_no 5 _).mono ?_
  rintro e' w' ⟨rfl, rfl⟩
  have D0 := blk_drewN (C0.out) (nq + nd)
  have D1 := blk_drewN (C1.out) (nq + nd)
  have D2 := pw_below_drewN C2.out (nq + nd)
  generalize W1.drewN (nq + nd) = W2 at D0 D1 D2 ⊢
  refine leaves_cons (f := 18) (args := #[.pointer (some ⟨w.heap.size + 1, 0, none⟩)]) (by simp) (by simp [go_sem]) ?_
  refine (parse_panicking ⟨w.heap.size + 1, 0, none⟩ 0 5 [] _ ((blk_cell (D1) 0).trans rfl) (blk_frozen (D1) 0)).mono ?_
  rintro e u' w'' ⟨rfl, rfl, rfl⟩
  have m0 : ((W2).setCell ⟨w.heap.size + 1, 0, none⟩ (.int .i64 5)).heap[w.heap.size]? = some (.cells #[.string ⟨#[]⟩, .int .u8 0, .int .i64 0, .bool false, .bool false, .bool false, .int .i64 0, .int .i64 0, .int .u8 0, .int .u16 0] 26 (0, 0)) := blk_far (D0) (by simp) _
  have m1 : ((W2).setCell ⟨w.heap.size + 1, 0, none⟩ (.int .i64 5)).heap[w.heap.size + 1]? = some (.cells #[.int .i64 5] 27 (0, 0)) := blk_put (D1) 0 _ rfl
  have m2 : Below w.heap.size w ((W2).setCell ⟨w.heap.size + 1, 0, none⟩ (.int .i64 5)) := below_set (D2) (Nat.le_succ _)
  generalize ((W2).setCell ⟨w.heap.size + 1, 0, none⟩ (.int .i64 5)) = Y at m0 m1 m2 ⊢
  have u0 : Y.cell? ⟨w.heap.size, 0, none⟩ = some (.string ⟨#[]⟩) := (blk_cell m0 0).trans rfl
  have u1 : Y.cell? ⟨w.heap.size, 1, none⟩ = some (.int .u8 0) := (blk_cell m0 1).trans rfl
  have u2 : Y.cell? ⟨w.heap.size, 2, none⟩ = some (.int .i64 0) := (blk_cell m0 2).trans rfl
  have u3 : Y.cell? ⟨w.heap.size, 3, none⟩ = some (.bool false) := (blk_cell m0 3).trans rfl
  have u4 : Y.cell? ⟨w.heap.size, 4, none⟩ = some (.bool false) := (blk_cell m0 4).trans rfl
  have u5 : Y.cell? ⟨w.heap.size, 5, none⟩ = some (.bool false) := (blk_cell m0 5).trans rfl
  have u6 : Y.cell? ⟨w.heap.size, 6, none⟩ = some (.int .i64 0) := (blk_cell m0 6).trans rfl
  have u7 : Y.cell? ⟨w.heap.size, 7, none⟩ = some (.int .i64 0) := (blk_cell m0 7).trans rfl
  have u8 : Y.cell? ⟨w.heap.size, 8, none⟩ = some (.int .u8 0) := (blk_cell m0 8).trans rfl
  have u9 : Y.cell? ⟨w.heap.size, 9, none⟩ = some (.int .u16 0) := (blk_cell m0 9).trans rfl
  have v0 : Y.cell? ⟨w.heap.size + 1, 0, none⟩ = some (.int .i64 5) := (blk_cell m1 0).trans rfl
  simp [Leaves, settle, results, Try.results10, go_sem, u0, u1, u2, u3, u4, u5, u6, u7, u8, u9, v0, m2]
set_option maxRecDepth 100000 in
set_option maxHeartbeats 4000000 in
theorem hparse_sum (A : Option Addr) (c : Nat) (l : List Int) (hl : 336 ≤ l.length) (w : World) (hr : Kd.C (Kd.int .u8) w A l.length l) (hc : l.length ≤ c) (hk : 0 ≤ rd l 327 ∧ rd l 327 ≤ 255) (hok : (wareT (rd l 327)).2.2.2.2 = true) (h80 : 0 ≤ rd l 328) (h8 : decide (rd l 328 ≤ 8) = true) (h5 : decide (rd l 329 ≤ 5) = true) (hm : decide ((l.length : Int) ≤ shl .i64 32768 (rd l 328)) = true) (hs : (rd l 333 == sumTo l 25) = false) :
    Calls Try.prog 10 #[.slice A l.length c] w fun e' w' => e' = .returned (.tuple #[.agg #[.string ⟨#[]⟩, .int .u8 0, .int .i64 0, .bool false, .bool false, .bool false, .int .i64 0, .int .i64 0, .int .u8 0, .int .u16 0], .int .i64 3]) ∧ Below w.heap.size w w' := by
  have hmf : ∀ (fn : Fn) (first cap : Array Value) (w : World), (Instr.makeFunc fn first cap).run Try.prog w = .ok (.func fn first cap) w := fun _ _ _ _ => rfl
  obtain ⟨ad, rfl, _⟩ := Kd.at_int hr 0 (by omega) (by omega)
  have HR := Aside0.mk hr
  have hli : (336 : Int) ≤ l.length := by omega
  have hci : (336 : Int) ≤ c := by omega
  clear hr
  go_enter_defers Try.func10, Try.ntmps10
  go_wp2_with fail
  have z0 := blk_alloc (blk_new w (.cells #[.string ⟨#[]⟩, .int .u8 0, .int .i64 0, .bool false, .bool false, .bool false, .int .i64 0, .int .i64 0, .int .u8 0, .int .u16 0] 26)) (.cells #[.int .i64 0] 27)
  have z1 := heap_alloc_new (w.alloc (.cells #[.string ⟨#[]⟩, .int .u8 0, .int .i64 0, .bool false, .bool false, .bool false, .int .i64 0, .int .i64 0, .int .u8 0, .int .u16 0] 26)) (.cells #[.int .i64 0] 27)
  rw [show (w.alloc (.cells #[.string ⟨#[]⟩, .int .u8 0, .int .i64 0, .bool false, .bool false, .bool false, .int .i64 0, .int .i64 0, .int .u8 0, .int .u16 0] 26)).heap.size = w.heap.size + 1 by simp] at z1
  have z2 := below_alloc (below_alloc (Below.refl w.heap.size w) (.cells #[.string ⟨#[]⟩, .int .u8 0, .int .i64 0, .bool false, .bool false, .bool false, .int .i64 0, .int .i64 0, .int .u8 0, .int .u16 0] 26)) (.cells #[.int .i64 0] 27)
  generalize (w.alloc (.cells #[.string ⟨#[]⟩, .int .u8 0, .int .i64 0, .bool false, .bool false, .bool false, .int .i64 0, .int .i64 0, .int .u8 0, .int .u16 0] 26)).alloc (.cells #[.int .i64 0] 27) = W0 at z0 z1 z2 ⊢
  refine (need_ok 2 _).mono ?_
  rintro e' w' ⟨rfl, hw⟩
  replace hw := hw.symm
  subst hw
  obtain ⟨ad', ea, c327⟩ := Kd.at_int (Kd.C_below HR.out z2) 327 (by omega) (by omega)
  obtain rfl := Option.some.inj ea
  clear ea
  replace c327 : W0.cell? ⟨ad.block, ad.off + 327, none⟩ = some (.int .u8 (rd l 327)) := c327
  go_wp2_with fail
  refine (header_ware.calls (rd l 327) hk _).mono ?_
  rintro e' w1 ⟨rfl, hb⟩
  have B0 := Aside0.mk (blk_below z0 hb)
  have B1 := Aside0.mk (blk_below z1 hb)
  have B2 := Aside0.mk (Below.trans z2 (hb.mono z2.size))
  clear z0 z1 z2 hb c327
  rw [hok]
  go_wp2_with fail
  refine (need_ok 4 _).mono ?_
  rintro e' w' ⟨rfl, rfl⟩
  have hg : w.heap.size + 1 < w1.heap.size := blk_lt B1.out
  have C0 := Aside0.mk (blk_alloc B0.out (.cells #[.string ⟨#[]⟩, .int .u8 (rd l 327), .int .i64 (wareT (rd l 327)).1, .bool (wareT (rd l 327)).2.1, .bool (wareT (rd l 327)).2.2.1, .bool (wareT (rd l 327)).2.2.2.1, .int .i64 0, .int .i64 0, .int .u8 0, .int .u16 0] 26))
  have C1 := Aside0.mk (blk_alloc B1.out (.cells #[.string ⟨#[]⟩, .int .u8 (rd l 327), .int .i64 (wareT (rd l 327)).1, .bool (wareT (rd l 327)).2.1, .bool (wareT (rd l 327)).2.2.1, .bool (wareT (rd l 327)).2.2.2.1, .int .i64 0, .int .i64 0, .int .u8 0, .int .u16 0] 26))
  have C2 := Aside0.mk (below_alloc B2.out (.cells #[.string ⟨#[]⟩, .int .u8 (rd l 327), .int .i64 (wareT (rd l 327)).1, .bool (wareT (rd l 327)).2.1, .bool (wareT (rd l 327)).2.2.1, .bool (wareT (rd l 327)).2.2.2.1, .int .i64 0, .int .i64 0, .int .u8 0, .int .u16 0] 26))
  have C3 := Aside0.mk (heap_alloc_new w1 (.cells #[.string ⟨#[]⟩, .int .u8 (rd l 327), .int .i64 (wareT (rd l 327)).1, .bool (wareT (rd l 327)).2.1, .bool (wareT (rd l 327)).2.2.1, .bool (wareT (rd l 327)).2.2.2.1, .int .i64 0, .int .i64 0, .int .u8 0, .int .u16 0] 26))
  generalize w1.alloc (.cells #[.string ⟨#[]⟩, .int .u8 (rd l 327), .int .i64 (wareT (rd l 327)).1, .bool (wareT (rd l 327)).2.1, .bool (wareT (rd l 327)).2.2.1, .bool (wareT (rd l 327)).2.2.2.1, .int .i64 0, .int .i64 0, .int .u8 0, .int .u16 0] 26) = W1 at C0 C1 C2 C3 ⊢
  generalize w1.heap.size = gx at hg C3 ⊢
  clear B0 B1 B2
  dsimp only
  obtain ⟨ad', ea, c328⟩ := Kd.at_int (Kd.C_below HR.out C2.out) 328 (by omega) (by omega)
  obtain rfl := Option.some.inj ea
  clear ea
  replace c328 : W1.cell? ⟨ad.block, ad.off + 328, none⟩ = some (.int .u8 (rd l 328)) := c328
  obtain ⟨ad', ea, c329⟩ := Kd.at_int (Kd.C_below HR.out C2.out) 329 (by omega) (by omega)
  obtain rfl := Option.some.inj ea
  clear ea
  replace c329 : W1.cell? ⟨ad.block, ad.off + 329, none⟩ = some (.int .u8 (rd l 329)) := c329
  go_wp2_with fail
  go_quiet (fail)
  go_wp2_with fail
  (with_reducible refine (header_most.calls (rd l 328) _ _ (by unfold header_most.f; rw [if_pos h80])).mono ?_)
  rintro e' w' ⟨rfl, ⟨nd, rfl⟩⟩
  go_wp2_with fail
  refine (need_ok 5 _).mono ?_
  rintro e' w' ⟨rfl, rfl⟩
  clear c328 c329
  have D0 := Aside0.mk (blk_drewN C0.out (nq + nd))
  have D1 := Aside0.mk (blk_drewN C1.out (nq + nd))
  have D2 := Aside0.mk (pw_below_drewN C2.out (nq + nd))
  have D3 := Aside0.mk (blk_drewN C3.out (nq + nd))
  generalize W1.drewN (nq + nd) = W2 at D0 D1 D2 D3 ⊢
  dsimp only
  clear C0 C1 C2 C3
  obtain ⟨ad', ea, c333⟩ := Kd.at_int (Kd.C_below HR.out D2.out) 333 (by omega) (by omega)
  obtain rfl := Option.some.inj ea
  clear ea
  replace c333 : W2.cell? ⟨ad.block, ad.off + 333, none⟩ = some (.int .u8 (rd l 333)) := c333
  have hsum : header_sum.f l = some (sumTo l 25) := by unfold header_sum.f; rw [if_pos (by omega)]
  go_wp2_with fail
  have p333 : (333 : Int) < l.length := by omega
  have c333d : W2.drew.cell? ⟨ad.block, ad.off + 333, none⟩ = some (.int .u8 (rd l 333)) := c333
  go_still_tail 6, (by kernel_rfl)
  still_call (header_sum.calls _ c l (sumTo l 25) _ (Kd.C_below HR.out (below_drew1 D2.out)) hc hsum)
  repeat still_step
  refine wpStill_nil ?_
  change wpList _ _ _ _ _ W2.drew
  have F0 := blk_drew D0.out
  have F1 := blk_drew D1.out
  have F2 := below_drew1 D2.out
  have F3 := blk_drew D3.out
  generalize W2.drew = W3 at F0 F1 F2 F3 ⊢
  clear c333 c333d p333 hsum D0 D1 D2 D3
  go_wp2_with fail
  refine (need_no 3 _).mono ?_
  rintro e' w' ⟨rfl, hw⟩
  replace hw := hw.symm
  subst hw
  refine leaves_cons (f := 18) (args := #[.pointer (some ⟨w.heap.size + 1, 0, none⟩)]) (by simp) (by simp [go_sem]) ?_
  refine (parse_panicking ⟨w.heap.size + 1, 0, none⟩ 0 3 [] _ ((blk_cell (F1) 0).trans rfl) (blk_frozen (F1) 0)).mono ?_
  rintro e u' w'' ⟨rfl, rfl, rfl⟩
  have m0 : ((W3).setCell ⟨w.heap.size + 1, 0, none⟩ (.int .i64 3)).heap[w.heap.size]? = some (.cells #[.string ⟨#[]⟩, .int .u8 0, .int .i64 0, .bool false, .bool false, .bool false, .int .i64 0, .int .i64 0, .int .u8 0, .int .u16 0] 26 (0, 0)) := blk_far (F0) (by simp) _
  have m1 : ((W3).setCell ⟨w.heap.size + 1, 0, none⟩ (.int .i64 3)).heap[w.heap.size + 1]? = some (.cells #[.int .i64 3] 27 (0, 0)) := blk_put (F1) 0 _ rfl
  have m2 : Below w.heap.size w ((W3).setCell ⟨w.heap.size + 1, 0, none⟩ (.int .i64 3)) := below_set (F2) (Nat.le_succ _)
  generalize ((W3).setCell ⟨w.heap.size + 1, 0, none⟩ (.int .i64 3)) = Y at m0 m1 m2 ⊢
  have u0 : Y.cell? ⟨w.heap.size, 0, none⟩ = some (.string ⟨#[]⟩) := (blk_cell m0 0).trans rfl
  have u1 : Y.cell? ⟨w.heap.size, 1, none⟩ = some (.int .u8 0) := (blk_cell m0 1).trans rfl
  have u2 : Y.cell? ⟨w.heap.size, 2, none⟩ = some (.int .i64 0) := (blk_cell m0 2).trans rfl
  have u3 : Y.cell? ⟨w.heap.size, 3, none⟩ = some (.bool false) := (blk_cell m0 3).trans rfl
  have u4 : Y.cell? ⟨w.heap.size, 4, none⟩ = some (.bool false) := (blk_cell m0 4).trans rfl
  have u5 : Y.cell? ⟨w.heap.size, 5, none⟩ = some (.bool false) := (blk_cell m0 5).trans rfl
  have u6 : Y.cell? ⟨w.heap.size, 6, none⟩ = some (.int .i64 0) := (blk_cell m0 6).trans rfl
  have u7 : Y.cell? ⟨w.heap.size, 7, none⟩ = some (.int .i64 0) := (blk_cell m0 7).trans rfl
  have u8 : Y.cell? ⟨w.heap.size, 8, none⟩ = some (.int .u8 0) := (blk_cell m0 8).trans rfl
  have u9 : Y.cell? ⟨w.heap.size, 9, none⟩ = some (.int .u16 0) := (blk_cell m0 9).trans rfl
  have v0 : Y.cell? ⟨w.heap.size + 1, 0, none⟩ = some (.int .i64 3) := (blk_cell m1 0).trans rfl
  simp [Leaves, settle, results, Try.results10, go_sem, u0, u1, u2, u3, u4, u5, u6, u7, u8, u9, v0, m2]
end Go.Proofs.Ytmlpijlnchnabaa.Hand
