/- What the proof of the statement CartNews stands on, part 3. (Packed by pack.py out of this session's texts.) -/
import Derived.Deep.MidRow
import Derived.BigRegion
import Derived.StillTailTactics
import Derived.Handy
import Derived.Test.YtmjjojbedllmgaaQCartNews0
import Derived.Test.YtmjjojbedllmgaaQCartNews2
set_option linter.unusedVariables false
set_option linter.unusedSimpArgs false
set_option maxRecDepth 100000
set_option maxHeartbeats 8000000
section
namespace Go.Proofs.Ytmjjojbedllmgaa.Hand
open Go.RowKit
open Go.Proofs.Ytmjjojbedllmgaa.G
open Go.Proofs.YtmjjojbedllmgaaW.PrintWords Go.Proofs.YtmjjojbedllmgaaW.PrintLast Go.Proofs.YtmjjojbedllmgaaW.PrintMore
theorem hparse_kind (A : Option Addr) (c : Nat) (l : List Int) (hl : 336 ≤ l.length) (w : World) (hr : Kd.C (Kd.int .u8) w A l.length l) (hc : l.length ≤ c) (hk : 0 ≤ rd l 327 ∧ rd l 327 ≤ 255) (hok : (wareT (rd l 327)).2.2.2.2 = false) :
  Calls Try.prog 28 #[.slice A l.length c] w fun e' w' => e' = .returned (.tuple #[.agg #[.string ⟨#[]⟩, .int .u8 0, .int .i64 0, .bool false, .bool false, .bool false, .int .i64 0, .int .i64 0, .int .u8 0, .int .u16 0], .int .i64 4]) ∧ Below w.heap.size w w' := by
 have hmf : ∀ (fn : Fn) (first cap : Array Value) (w : World), (Instr.makeFunc fn first cap).run Try.prog w = .ok (.func fn first cap) w := fun _ _ _ _ => rfl
 obtain ⟨ad, rfl, _⟩ := Kd.at_int hr 0 (by omega) (by omega)
 have HR := Aside0.mk hr
 have hli : (336 : Int) ≤ l.length := by omega
 have hci : (336 : Int) ≤ c := by omega
 clear hr
 go_enter_defers Try.func28, Try.ntmps28
 go_wp2_with fail
 have z0 := blk_alloc (blk_new w (.cells #[.string ⟨#[]⟩, .int .u8 0, .int .i64 0, .bool false, .bool false, .bool false, .int .i64 0, .int .i64 0, .int .u8 0, .int .u16 0] 30)) (.cells #[.int .i64 0] 26)
 have z1 := heap_alloc_new (w.alloc (.cells #[.string ⟨#[]⟩, .int .u8 0, .int .i64 0, .bool false, .bool false, .bool false, .int .i64 0, .int .i64 0, .int .u8 0, .int .u16 0] 30)) (.cells #[.int .i64 0] 26)
 rw [show (w.alloc (.cells #[.string ⟨#[]⟩, .int .u8 0, .int .i64 0, .bool false, .bool false, .bool false, .int .i64 0, .int .i64 0, .int .u8 0, .int .u16 0] 30)).heap.size = w.heap.size + 1 by simp] at z1
 have z2 := below_alloc (below_alloc (Below.refl w.heap.size w) (.cells #[.string ⟨#[]⟩, .int .u8 0, .int .i64 0, .bool false, .bool false, .bool false, .int .i64 0, .int .i64 0, .int .u8 0, .int .u16 0] 30)) (.cells #[.int .i64 0] 26)
 generalize (w.alloc (.cells #[.string ⟨#[]⟩, .int .u8 0, .int .i64 0, .bool false, .bool false, .bool false, .int .i64 0, .int .i64 0, .int .u8 0, .int .u16 0] 30)).alloc (.cells #[.int .i64 0] 26) = W0 at z0 z1 z2 ⊢
 refine (need_ok 2 _).mono ?_
 rintro e' w' ⟨rfl, hw⟩
 replace hw := hw.symm
 subst hw
 obtain ⟨ad', ea, c327⟩ := Kd.at_int (Kd.C_below HR.out z2) 327 (by omega) (by omega)
 obtain rfl := Option.some.inj ea
 clear ea
 replace c327 : W0.cell? ⟨ad.block, ad.off + 327, none⟩ = some (.int .u8 (rd l 327)) := c327
 go_wp2_with fail
 refine (header_ware.calls (rd l 327) hk _).mono ?_
 rintro e' w1 ⟨rfl, hb⟩
 have B0 := Aside0.mk (blk_below z0 hb)
 have B1 := Aside0.mk (blk_below z1 hb)
 have B2 := Aside0.mk (Below.trans z2 (hb.mono z2.size))
 clear z0 z1 z2 hb c327
 rw [hok]
 go_wp2_with fail
 refine (need_no 4 _).mono ?_
 rintro e' w' ⟨rfl, rfl⟩
 have C0 := blk_alloc B0.out (.cells #[.string ⟨#[]⟩, .int .u8 0, .int .i64 (wareT (rd l 327)).1, .bool (wareT (rd l 327)).2.1, .bool (wareT (rd l 327)).2.2.1, .bool (wareT (rd l 327)).2.2.2.1, .int .i64 0, .int .i64 0, .int .u8 0, .int .u16 0] 30)
 have C1 := blk_alloc B1.out (.cells #[.string ⟨#[]⟩, .int .u8 0, .int .i64 (wareT (rd l 327)).1, .bool (wareT (rd l 327)).2.1, .bool (wareT (rd l 327)).2.2.1, .bool (wareT (rd l 327)).2.2.2.1, .int .i64 0, .int .i64 0, .int .u8 0, .int .u16 0] 30)
 have C2 := below_alloc B2.out (.cells #[.string ⟨#[]⟩, .int .u8 0, .int .i64 (wareT (rd l 327)).1, .bool (wareT (rd l 327)).2.1, .bool (wareT (rd l 327)).2.2.1, .bool (wareT (rd l 327)).2.2.2.1, .int .i64 0, .int .i64 0, .int .u8 0, .int .u16 0] 30)
 generalize w1.alloc (.cells #[.string ⟨#[]⟩, .int .u8 0, .int .i64 (wareT (rd l 327)).1, .bool (wareT (rd l 327)).2.1, .bool (wareT (rd l 327)).2.2.1, .bool (wareT (rd l 327)).2.2.2.1, .int .i64 0, .int .i64 0, .int .u8 0, .int .u16 0] 30) = W1 at C0 C1 C2 ⊢
 refine leaves_cons (f := 53) (args := #[.pointer (some ⟨w.heap.size + 1, 0, none⟩)]) (by simp) (by simp [go_sem]) ?_
 refine (parse_panicking ⟨w.heap.size + 1, 0, none⟩ 0 4 [] _ ((blk_cell (C1) 0).trans rfl) (blk_frozen (C1) 0)).mono ?_
 rintro e u' w'' ⟨rfl, rfl, rfl⟩
 have m0 : ((W1).setCell ⟨w.heap.size + 1, 0, none⟩ (.int .i64 4)).heap[w.heap.size]? = some (.cells #[.string ⟨#[]⟩, .int .u8 0, .int .i64 0, .bool false, .bool false, .bool false, .int .i64 0, .int .i64 0, .int .u8 0, .int .u16 0] 30 (0, 0)) := blk_far (C0) (by simp) _
 have m1 : ((W1).setCell ⟨w.heap.size + 1, 0, none⟩ (.int .i64 4)).heap[w.heap.size + 1]? = some (.cells #[.int .i64 4] 26 (0, 0)) := blk_put (C1) 0 _ rfl
 have m2 : Below w.heap.size w ((W1).setCell ⟨w.heap.size + 1, 0, none⟩ (.int .i64 4)) := below_set (C2) (Nat.le_succ _)
 generalize ((W1).setCell ⟨w.heap.size + 1, 0, none⟩ (.int .i64 4)) = Y at m0 m1 m2 ⊢
 have u0 : Y.cell? ⟨w.heap.size, 0, none⟩ = some (.string ⟨#[]⟩) := (blk_cell m0 0).trans rfl
 have u1 : Y.cell? ⟨w.heap.size, 1, none⟩ = some (.int .u8 0) := (blk_cell m0 1).trans rfl
 have u2 : Y.cell? ⟨w.heap.size, 2, none⟩ = some (.int .i64 0) := (blk_cell m0 2).trans rfl
 have u3 : Y.cell? ⟨w.heap.size, 3, none⟩ = some (.bool false) := (blk_cell m0 3).trans rfl
 have u4 : Y.cell? ⟨w.heap.size, 4, none⟩ = some (.bool false) := (blk_cell m0 4).trans rfl
 have u5 : Y.cell? ⟨w.heap.size, 5, none⟩ = some (.bool false) := (blk_cell m0 5).trans rfl
 have u6 : Y.cell? ⟨w.heap.size, 6, none⟩ = some (.int .i64 0) := (blk_cell m0 6).trans rfl
 have u7 : Y.cell? ⟨w.heap.size, 7, none⟩ = some (.int .i64 0) := (blk_cell m0 7).trans rfl
 have u8 : Y.cell? ⟨w.heap.size, 8, none⟩ = some (.int .u8 0) := (blk_cell m0 8).trans rfl
 have u9 : Y.cell? ⟨w.heap.size, 9, none⟩ = some (.int .u16 0) := (blk_cell m0 9).trans rfl
 have v0 : Y.cell? ⟨w.heap.size + 1, 0, none⟩ = some (.int .i64 4) := (blk_cell m1 0).trans rfl
 simp [Leaves, settle, results, Try.results28, go_sem, u0, u1, u2, u3, u4, u5, u6, u7, u8, u9, v0, m2]
theorem hparse_size_a (A : Option Addr) (c : Nat) (l : List Int) (hl : 336 ≤ l.length) (w : World) (hr : Kd.C (Kd.int .u8) w A l.length l) (hc : l.length ≤ c) (hk : 0 ≤ rd l 327 ∧ rd l 327 ≤ 255) (hok : (wareT (rd l 327)).2.2.2.2 = true) (h8 : decide (rd l 328 ≤ 8) = false) :
  Calls Try.prog 28 #[.slice A l.length c] w fun e' w' => e' = .returned (.tuple #[.agg #[.string ⟨#[]⟩, .int .u8 0, .int .i64 0, .bool false, .bool false, .bool false, .int .i64 0, .int .i64 0, .int .u8 0, .int .u16 0], .int .i64 5]) ∧ Below w.heap.size w w' := by
 have hmf : ∀ (fn : Fn) (first cap : Array Value) (w : World), (Instr.makeFunc fn first cap).run Try.prog w = .ok (.func fn first cap) w := fun _ _ _ _ => rfl
 obtain ⟨ad, rfl, _⟩ := Kd.at_int hr 0 (by omega) (by omega)
 have HR := Aside0.mk hr
 have hli : (336 : Int) ≤ l.length := by omega
 have hci : (336 : Int) ≤ c := by omega
 clear hr
 go_enter_defers Try.func28, Try.ntmps28
 go_wp2_with fail
 have z0 := blk_alloc (blk_new w (.cells #[.string ⟨#[]⟩, .int .u8 0, .int .i64 0, .bool false, .bool false, .bool false, .int .i64 0, .int .i64 0, .int .u8 0, .int .u16 0] 30)) (.cells #[.int .i64 0] 26)
 have z1 := heap_alloc_new (w.alloc (.cells #[.string ⟨#[]⟩, .int .u8 0, .int .i64 0, .bool false, .bool false, .bool false, .int .i64 0, .int .i64 0, .int .u8 0, .int .u16 0] 30)) (.cells #[.int .i64 0] 26)
 rw [show (w.alloc (.cells #[.string ⟨#[]⟩, .int .u8 0, .int .i64 0, .bool false, .bool false, .bool false, .int .i64 0, .int .i64 0, .int .u8 0, .int .u16 0] 30)).heap.size = w.heap.size + 1 by simp] at z1
 have z2 := below_alloc (below_alloc (Below.refl w.heap.size w) (.cells #[.string ⟨#[]⟩, .int .u8 0, .int .i64 0, .bool false, .bool false, .bool false, .int .i64 0, .int .i64 0, .int .u8 0, .int .u16 0] 30)) (.cells #[.int .i64 0] 26)
 generalize (w.alloc (.cells #[.string ⟨#[]⟩, .int .u8 0, .int .i64 0, .bool false, .bool false, .bool false, .int .i64 0, .int .i64 0, .int .u8 0, .int .u16 0] 30)).alloc (.cells #[.int .i64 0] 26) = W0 at z0 z1 z2 ⊢
 refine (need_ok 2 _).mono ?_
 rintro e' w' ⟨rfl, hw⟩
 replace hw := hw.symm
 subst hw
 obtain ⟨ad', ea, c327⟩ := Kd.at_int (Kd.C_below HR.out z2) 327 (by omega) (by omega)
 obtain rfl := Option.some.inj ea
 clear ea
 replace c327 : W0.cell? ⟨ad.block, ad.off + 327, none⟩ = some (.int .u8 (rd l 327)) := c327
 go_wp2_with fail
 refine (header_ware.calls (rd l 327) hk _).mono ?_
 rintro e' w1 ⟨rfl, hb⟩
 have B0 := Aside0.mk (blk_below z0 hb)
 have B1 := Aside0.mk (blk_below z1 hb)
 have B2 := Aside0.mk (Below.trans z2 (hb.mono z2.size))
 clear z0 z1 z2 hb c327
 rw [hok]
 go_wp2_with fail
 refine (need_ok 4 _).mono ?_
 rintro e' w' ⟨rfl, rfl⟩
 have hg : w.heap.size + 1 < w1.heap.size := blk_lt B1.out
 have C0 := Aside0.mk (blk_alloc B0.out (.cells #[.string ⟨#[]⟩, .int .u8 (rd l 327), .int .i64 (wareT (rd l 327)).1, .bool (wareT (rd l 327)).2.1, .bool (wareT (rd l 327)).2.2.1, .bool (wareT (rd l 327)).2.2.2.1, .int .i64 0, .int .i64 0, .int .u8 0, .int .u16 0] 30))
 have C1 := Aside0.mk (blk_alloc B1.out (.cells #[.string ⟨#[]⟩, .int .u8 (rd l 327), .int .i64 (wareT (rd l 327)).1, .bool (wareT (rd l 327)).2.1, .bool (wareT (rd l 327)).2.2.1, .bool (wareT (rd l 327)).2.2.2.1, .int .i64 0, .int .i64 0, .int .u8 0, .int .u16 0] 30))
 have C2 := Aside0.mk (below_alloc B2.out (.cells #[.string ⟨#[]⟩, .int .u8 (rd l 327), .int .i64 (wareT (rd l 327)).1, .bool (wareT (rd l 327)).2.1, .bool (wareT (rd l 327)).2.2.1, .bool (wareT (rd l 327)).2.2.2.1, .int .i64 0, .int .i64 0, .int .u8 0, .int .u16 0] 30))
 have C3 := Aside0.mk (heap_alloc_new w1 (.cells #[.string ⟨#[]⟩, .int .u8 (rd l 327), .int .i64 (wareT (rd l 327)).1, .bool (wareT (rd l 327)).2.1, .bool (wareT (rd l 327)).2.2.1, .bool (wareT (rd l 327)).2.2.2.1, .int .i64 0, .int .i64 0, .int .u8 0, .int .u16 0] 30))
 generalize w1.alloc (.cells #[.string ⟨#[]⟩, .int .u8 (rd l 327), .int .i64 (wareT (rd l 327)).1, .bool (wareT (rd l 327)).2.1, .bool (wareT (rd l 327)).2.2.1, .bool (wareT (rd l 327)).2.2.2.1, .int .i64 0, .int .i64 0, .int .u8 0, .int .u16 0] 30) = W1 at C0 C1 C2 C3 ⊢
 generalize w1.heap.size = gx at hg C3 ⊢
 clear B0 B1 B2
 dsimp only
 obtain ⟨ad', ea, c328⟩ := Kd.at_int (Kd.C_below HR.out C2.out) 328 (by omega) (by omega)
 obtain rfl := Option.some.inj ea
 clear ea
 replace c328 : W1.cell? ⟨ad.block, ad.off + 328, none⟩ = some (.int .u8 (rd l 328)) := c328
 obtain ⟨ad', ea, c329⟩ := Kd.at_int (Kd.C_below HR.out C2.out) 329 (by omega) (by omega)
 obtain rfl := Option.some.inj ea
 clear ea
 replace c329 : W1.cell? ⟨ad.block, ad.off + 329, none⟩ = some (.int .u8 (rd l 329)) := c329
 go_wp2_with fail
 go_quiet (fail)
 go_wp2_with fail
 refine (need_no 5 _).mono ?_
 rintro e' w' ⟨rfl, rfl⟩
 have D0 := blk_drewN (C0.out) nq
 have D1 := blk_drewN (C1.out) nq
 have D2 := pw_below_drewN C2.out nq
 generalize W1.drewN nq = W2 at D0 D1 D2 ⊢
 refine leaves_cons (f := 53) (args := #[.pointer (some ⟨w.heap.size + 1, 0, none⟩)]) (by simp) (by simp [go_sem]) ?_
 refine (parse_panicking ⟨w.heap.size + 1, 0, none⟩ 0 5 [] _ ((blk_cell (D1) 0).trans rfl) (blk_frozen (D1) 0)).mono ?_
 rintro e u' w'' ⟨rfl, rfl, rfl⟩
 have m0 : ((W2).setCell ⟨w.heap.size + 1, 0, none⟩ (.int .i64 5)).heap[w.heap.size]? = some (.cells #[.string ⟨#[]⟩, .int .u8 0, .int .i64 0, .bool false, .bool false, .bool false, .int .i64 0, .int .i64 0, .int .u8 0, .int .u16 0] 30 (0, 0)) := blk_far (D0) (by simp) _
 have m1 : ((W2).setCell ⟨w.heap.size + 1, 0, none⟩ (.int .i64 5)).heap[w.heap.size + 1]? = some (.cells #[.int .i64 5] 26 (0, 0)) := blk_put (D1) 0 _ rfl
 have m2 : Below w.heap.size w ((W2).setCell ⟨w.heap.size + 1, 0, none⟩ (.int .i64 5)) := below_set (D2) (Nat.le_succ _)
 generalize ((W2).setCell ⟨w.heap.size + 1, 0, none⟩ (.int .i64 5)) = Y at m0 m1 m2 ⊢
 have u0 : Y.cell? ⟨w.heap.size, 0, none⟩ = some (.string ⟨#[]⟩) := (blk_cell m0 0).trans rfl
 have u1 : Y.cell? ⟨w.heap.size, 1, none⟩ = some (.int .u8 0) := (blk_cell m0 1).trans rfl
 have u2 : Y.cell? ⟨w.heap.size, 2, none⟩ = some (.int .i64 0) := (blk_cell m0 2).trans rfl
 have u3 : Y.cell? ⟨w.heap.size, 3, none⟩ = some (.bool false) := (blk_cell m0 3).trans rfl
 have u4 : Y.cell? ⟨w.heap.size, 4, none⟩ = some (.bool false) := (blk_cell m0 4).trans rfl
 have u5 : Y.cell? ⟨w.heap.size, 5, none⟩ = some (.bool false) := (blk_cell m0 5).trans rfl
 have u6 : Y.cell? ⟨w.heap.size, 6, none⟩ = some (.int .i64 0) := (blk_cell m0 6).trans rfl
 have u7 : Y.cell? ⟨w.heap.size, 7, none⟩ = some (.int .i64 0) := (blk_cell m0 7).trans rfl
 have u8 : Y.cell? ⟨w.heap.size, 8, none⟩ = some (.int .u8 0) := (blk_cell m0 8).trans rfl
 have u9 : Y.cell? ⟨w.heap.size, 9, none⟩ = some (.int .u16 0) := (blk_cell m0 9).trans rfl
 have v0 : Y.cell? ⟨w.heap.size + 1, 0, none⟩ = some (.int .i64 5) := (blk_cell m1 0).trans rfl
 simp [Leaves, settle, results, Try.results28, go_sem, u0, u1, u2, u3, u4, u5, u6, u7, u8, u9, v0, m2]
theorem hparse_size_b (A : Option Addr) (c : Nat) (l : List Int) (hl : 336 ≤ l.length) (w : World) (hr : Kd.C (Kd.int .u8) w A l.length l) (hc : l.length ≤ c) (hk : 0 ≤ rd l 327 ∧ rd l 327 ≤ 255) (hok : (wareT (rd l 327)).2.2.2.2 = true) (h8 : decide (rd l 328 ≤ 8) = true) (h5 : decide (rd l 329 ≤ 5) = false) :
  Calls Try.prog 28 #[.slice A l.length c] w fun e' w' => e' = .returned (.tuple #[.agg #[.string ⟨#[]⟩, .int .u8 0, .int .i64 0, .bool false, .bool false, .bool false, .int .i64 0, .int .i64 0, .int .u8 0, .int .u16 0], .int .i64 5]) ∧ Below w.heap.size w w' := by
 have hmf : ∀ (fn : Fn) (first cap : Array Value) (w : World), (Instr.makeFunc fn first cap).run Try.prog w = .ok (.func fn first cap) w := fun _ _ _ _ => rfl
 obtain ⟨ad, rfl, _⟩ := Kd.at_int hr 0 (by omega) (by omega)
 have HR := Aside0.mk hr
 have hli : (336 : Int) ≤ l.length := by omega
 have hci : (336 : Int) ≤ c := by omega
 clear hr
 go_enter_defers Try.func28, Try.ntmps28
 go_wp2_with fail
 have z0 := blk_alloc (blk_new w (.cells #[.string ⟨#[]⟩, .int .u8 0, .int .i64 0, .bool false, .bool false, .bool false, .int .i64 0, .int .i64 0, .int .u8 0, .int .u16 0] 30)) (.cells #[.int .i64 0] 26)
 have z1 := heap_alloc_new (w.alloc (.cells #[.string ⟨#[]⟩, .int .u8 0, .int .i64 0, .bool false, .bool false, .bool false, .int .i64 0, .int .i64 0, .int .u8 0, .int .u16 0] 30)) (.cells #[.int .i64 0] 26)
 rw [show (w.alloc (.cells #[.string ⟨#[]⟩, .int .u8 0, .int .i64 0, .bool false, .bool false, .bool false, .int .i64 0, .int .i64 0, .int .u8 0, .int .u16 0] 30)).heap.size = w.heap.size + 1 by simp] at z1
 have z2 := below_alloc (below_alloc (Below.refl w.heap.size w) (.cells #[.string ⟨#[]⟩, .int .u8 0, .int .i64 0, .bool false, .bool false, .bool false, .int .i64 0, .int .i64 0, .int .u8 0, .int .u16 0] 30)) (.cells #[.int .i64 0] 26)
 generalize (w.alloc (.cells #[.string ⟨#[]⟩, .int .u8 0, .int .i64 0, .bool false, .bool false, .bool false, .int .i64 0, .int .i64 0, .int .u8 0, .int .u16 0] 30)).alloc (.cells #[.int .i64 0] 26) = W0 at z0 z1 z2 ⊢
 refine (need_ok 2 _).mono ?_
 rintro e' w' ⟨rfl, hw⟩
 replace hw := hw.symm
 subst hw
 obtain ⟨ad', ea, c327⟩ := Kd.at_int (Kd.C_below HR.out z2) 327 (by omega) (by omega)
 obtain rfl := Option.some.inj ea
 clear ea
 replace c327 : W0.cell? ⟨ad.block, ad.off + 327, none⟩ = some (.int .u8 (rd l 327)) := c327
 go_wp2_with fail
 refine (header_ware.calls (rd l 327) hk _).mono ?_
 rintro e' w1 ⟨rfl, hb⟩
 have B0 := Aside0.mk (blk_below z0 hb)
 have B1 := Aside0.mk (blk_below z1 hb)
 have B2 := Aside0.mk (Below.trans z2 (hb.mono z2.size))
 clear z0 z1 z2 hb c327
 rw [hok]
 go_wp2_with fail
 refine (need_ok 4 _).mono ?_
 rintro e' w' ⟨rfl, rfl⟩
 have hg : w.heap.size + 1 < w1.heap.size := blk_lt B1.out
 have C0 := Aside0.mk (blk_alloc B0.out (.cells #[.string ⟨#[]⟩, .int .u8 (rd l 327), .int .i64 (wareT (rd l 327)).1, .bool (wareT (rd l 327)).2.1, .bool (wareT (rd l 327)).2.2.1, .bool (wareT (rd l 327)).2.2.2.1, .int .i64 0, .int .i64 0, .int .u8 0, .int .u16 0] 30))
 have C1 := Aside0.mk (blk_alloc B1.out (.cells #[.string ⟨#[]⟩, .int .u8 (rd l 327), .int .i64 (wareT (rd l 327)).1, .bool (wareT (rd l 327)).2.1, .bool (wareT (rd l 327)).2.2.1, .bool (wareT (rd l 327)).2.2.2.1, .int .i64 0, .int .i64 0, .int .u8 0, .int .u16 0] 30))
 have C2 := Aside0.mk (below_alloc B2.out (.cells #[.string ⟨#[]⟩, .int .u8 (rd l 327), .int .i64 (wareT (rd l 327)).1, .bool (wareT (rd l 327)).2.1, .bool (wareT (rd l 327)).2.2.1, .bool (wareT (rd l 327)).2.2.2.1, .int .i64 0, .int .i64 0, .int .u8 0, .int .u16 0] 30))
 have C3 := Aside0.mk (heap_alloc_new w1 (.cells #[.string ⟨#[]⟩, .int .u8 (rd l 327), .int .i64 (wareT (rd l 327)).1, .bool (wareT (rd l 327)).2.1, .bool (wareT (rd l 327)).2.2.1, .bool (wareT (rd l 327)).2.2.2.1, .int .i64 0, .int .i64 0, .int .u8 0, .int .u16 0] 30))
 generalize w1.alloc (.cells #[.string ⟨#[]⟩, .int .u8 (rd l 327), .int .i64 (wareT (rd l 327)).1, .bool (wareT (rd l 327)).2.1, .bool (wareT (rd l 327)).2.2.1, .bool (wareT (rd l 327)).2.2.2.1, .int .i64 0, .int .i64 0, .int .u8 0, .int .u16 0] 30) = W1 at C0 C1 C2 C3 ⊢
 generalize w1.heap.size = gx at hg C3 ⊢
 clear B0 B1 B2
 dsimp only
 obtain ⟨ad', ea, c328⟩ := Kd.at_int (Kd.C_below HR.out C2.out) 328 (by omega) (by omega)
 obtain rfl := Option.some.inj ea
 clear ea
 replace c328 : W1.cell? ⟨ad.block, ad.off + 328, none⟩ = some (.int .u8 (rd l 328)) := c328
 obtain ⟨ad', ea, c329⟩ := Kd.at_int (Kd.C_below HR.out C2.out) 329 (by omega) (by omega)
 obtain rfl := Option.some.inj ea
 clear ea
 replace c329 : W1.cell? ⟨ad.block, ad.off + 329, none⟩ = some (.int .u8 (rd l 329)) := c329
 go_wp2_with fail
 go_quiet (fail)
 go_wp2_with fail
 refine (need_no 5 _).mono ?_
 rintro e' w' ⟨rfl, rfl⟩
 have D0 := blk_drewN (C0.out) nq
 have D1 := blk_drewN (C1.out) nq
 have D2 := pw_below_drewN C2.out nq
 generalize W1.drewN nq = W2 at D0 D1 D2 ⊢
 refine leaves_cons (f := 53) (args := #[.pointer (some ⟨w.heap.size + 1, 0, none⟩)]) (by simp) (by simp [go_sem]) ?_
 refine (parse_panicking ⟨w.heap.size + 1, 0, none⟩ 0 5 [] _ ((blk_cell (D1) 0).trans rfl) (blk_frozen (D1) 0)).mono ?_
 rintro e u' w'' ⟨rfl, rfl, rfl⟩
 have m0 : ((W2).setCell ⟨w.heap.size + 1, 0, none⟩ (.int .i64 5)).heap[w.heap.size]? = some (.cells #[.string ⟨#[]⟩, .int .u8 0, .int .i64 0, .bool false, .bool false, .bool false, .int .i64 0, .int .i64 0, .int .u8 0, .int .u16 0] 30 (0, 0)) := blk_far (D0) (by simp) _
 have m1 : ((W2).setCell ⟨w.heap.size + 1, 0, none⟩ (.int .i64 5)).heap[w.heap.size + 1]? = some (.cells #[.int .i64 5] 26 (0, 0)) := blk_put (D1) 0 _ rfl
 have m2 : Below w.heap.size w ((W2).setCell ⟨w.heap.size + 1, 0, none⟩ (.int .i64 5)) := below_set (D2) (Nat.le_succ _)
 generalize ((W2).setCell ⟨w.heap.size + 1, 0, none⟩ (.int .i64 5)) = Y at m0 m1 m2 ⊢
 have u0 : Y.cell? ⟨w.heap.size, 0, none⟩ = some (.string ⟨#[]⟩) := (blk_cell m0 0).trans rfl
 have u1 : Y.cell? ⟨w.heap.size, 1, none⟩ = some (.int .u8 0) := (blk_cell m0 1).trans rfl
 have u2 : Y.cell? ⟨w.heap.size, 2, none⟩ = some (.int .i64 0) := (blk_cell m0 2).trans rfl
 have u3 : Y.cell? ⟨w.heap.size, 3, none⟩ = some (.bool false) := (blk_cell m0 3).trans rfl
 have u4 : Y.cell? ⟨w.heap.size, 4, none⟩ = some (.bool false) := (blk_cell m0 4).trans rfl
 have u5 : Y.cell? ⟨w.heap.size, 5, none⟩ = some (.bool false) := (blk_cell m0 5).trans rfl
 have u6 : Y.cell? ⟨w.heap.size, 6, none⟩ = some (.int .i64 0) := (blk_cell m0 6).trans rfl
 have u7 : Y.cell? ⟨w.heap.size, 7, none⟩ = some (.int .i64 0) := (blk_cell m0 7).trans rfl
 have u8 : Y.cell? ⟨w.heap.size, 8, none⟩ = some (.int .u8 0) := (blk_cell m0 8).trans rfl
 have u9 : Y.cell? ⟨w.heap.size, 9, none⟩ = some (.int .u16 0) := (blk_cell m0 9).trans rfl
 have v0 : Y.cell? ⟨w.heap.size + 1, 0, none⟩ = some (.int .i64 5) := (blk_cell m1 0).trans rfl
 simp [Leaves, settle, results, Try.results28, go_sem, u0, u1, u2, u3, u4, u5, u6, u7, u8, u9, v0, m2]
theorem hparse_size_c (A : Option Addr) (c : Nat) (l : List Int) (hl : 336 ≤ l.length) (w : World) (hr : Kd.C (Kd.int .u8) w A l.length l) (hc : l.length ≤ c) (hk : 0 ≤ rd l 327 ∧ rd l 327 ≤ 255) (hok : (wareT (rd l 327)).2.2.2.2 = true) (h80 : 0 ≤ rd l 328) (h8 : decide (rd l 328 ≤ 8) = true) (h5 : decide (rd l 329 ≤ 5) = true) (hm : decide ((l.length : Int) ≤ shl .i64 32768 (rd l 328)) = false) :
  Calls Try.prog 28 #[.slice A l.length c] w fun e' w' => e' = .returned (.tuple #[.agg #[.string ⟨#[]⟩, .int .u8 0, .int .i64 0, .bool false, .bool false, .bool false, .int .i64 0, .int .i64 0, .int .u8 0, .int .u16 0], .int .i64 5]) ∧ Below w.heap.size w w' := by
 have hmf : ∀ (fn : Fn) (first cap : Array Value) (w : World), (Instr.makeFunc fn first cap).run Try.prog w = .ok (.func fn first cap) w := fun _ _ _ _ => rfl
 obtain ⟨ad, rfl, _⟩ := Kd.at_int hr 0 (by omega) (by omega)
 have HR := Aside0.mk hr
 have hli : (336 : Int) ≤ l.length := by omega
 have hci : (336 : Int) ≤ c := by omega
 clear hr
 go_enter_defers Try.func28, Try.ntmps28
 go_wp2_with fail
 have z0 := blk_alloc (blk_new w (.cells #[.string ⟨#[]⟩, .int .u8 0, .int .i64 0, .bool false, .bool false, .bool false, .int .i64 0, .int .i64 0, .int .u8 0, .int .u16 0] 30)) (.cells #[.int .i64 0] 26)
 have z1 := heap_alloc_new (w.alloc (.cells #[.string ⟨#[]⟩, .int .u8 0, .int .i64 0, .bool false, .bool false, .bool false, .int .i64 0, .int .i64 0, .int .u8 0, .int .u16 0] 30)) (.cells #[.int .i64 0] 26)
 rw [show (w.alloc (.cells #[.string ⟨#[]⟩, .int .u8 0, .int .i64 0, .bool false, .bool false, .bool false, .int .i64 0, .int .i64 0, .int .u8 0, .int .u16 0] 30)).heap.size = w.heap.size + 1 by simp] at z1
 have z2 := below_alloc (below_alloc (Below.refl w.heap.size w) (.cells #[.string ⟨#[]⟩, .int .u8 0, .int .i64 0, .bool false, .bool false, .bool false, .int .i64 0, .int .i64 0, .int .u8 0, .int .u16 0] 30)) (.cells #[.int .i64 0] 26)
 generalize (w.alloc (.cells #[.string ⟨#[]⟩, .int .u8 0, .int .i64 0, .bool false, .bool false, .bool false, .int .i64 0, .int .i64 0, .int .u8 0, .int .u16 0] 30)).alloc (.cells #[.int .i64 0] 26) = W0 at z0 z1 z2 ⊢
 refine (need_ok 2 _).mono ?_
 rintro e' w' ⟨rfl, hw⟩
 replace hw := hw.symm
 subst hw
 obtain ⟨ad', ea, c327⟩ := Kd.at_int (Kd.C_below HR.out z2) 327 (by omega) (by omega)
 obtain rfl := Option.some.inj ea
 clear ea
 replace c327 : W0.cell? ⟨ad.block, ad.off + 327, none⟩ = some (.int .u8 (rd l 327)) := c327
 go_wp2_with fail
 refine (header_ware.calls (rd l 327) hk _).mono ?_
 rintro e' w1 ⟨rfl, hb⟩
 have B0 := Aside0.mk (blk_below z0 hb)
 have B1 := Aside0.mk (blk_below z1 hb)
 have B2 := Aside0.mk (Below.trans z2 (hb.mono z2.size))
 clear z0 z1 z2 hb c327
 rw [hok]
 go_wp2_with fail
 refine (need_ok 4 _).mono ?_
 rintro e' w' ⟨rfl, rfl⟩
 have hg : w.heap.size + 1 < w1.heap.size := blk_lt B1.out
 have C0 := Aside0.mk (blk_alloc B0.out (.cells #[.string ⟨#[]⟩, .int .u8 (rd l 327), .int .i64 (wareT (rd l 327)).1, .bool (wareT (rd l 327)).2.1, .bool (wareT (rd l 327)).2.2.1, .bool (wareT (rd l 327)).2.2.2.1, .int .i64 0, .int .i64 0, .int .u8 0, .int .u16 0] 30))
 have C1 := Aside0.mk (blk_alloc B1.out (.cells #[.string ⟨#[]⟩, .int .u8 (rd l 327), .int .i64 (wareT (rd l 327)).1, .bool (wareT (rd l 327)).2.1, .bool (wareT (rd l 327)).2.2.1, .bool (wareT (rd l 327)).2.2.2.1, .int .i64 0, .int .i64 0, .int .u8 0, .int .u16 0] 30))
 have C2 := Aside0.mk (below_alloc B2.out (.cells #[.string ⟨#[]⟩, .int .u8 (rd l 327), .int .i64 (wareT (rd l 327)).1, .bool (wareT (rd l 327)).2.1, .bool (wareT (rd l 327)).2.2.1, .bool (wareT (rd l 327)).2.2.2.1, .int .i64 0, .int .i64 0, .int .u8 0, .int .u16 0] 30))
 have C3 := Aside0.mk (heap_alloc_new w1 (.cells #[.string ⟨#[]⟩, .int .u8 (rd l 327), .int .i64 (wareT (rd l 327)).1, .bool (wareT (rd l 327)).2.1, .bool (wareT (rd l 327)).2.2.1, .bool (wareT (rd l 327)).2.2.2.1, .int .i64 0, .int .i64 0, .int .u8 0, .int .u16 0] 30))
 generalize w1.alloc (.cells #[.string ⟨#[]⟩, .int .u8 (rd l 327), .int .i64 (wareT (rd l 327)).1, .bool (wareT (rd l 327)).2.1, .bool (wareT (rd l 327)).2.2.1, .bool (wareT (rd l 327)).2.2.2.1, .int .i64 0, .int .i64 0, .int .u8 0, .int .u16 0] 30) = W1 at C0 C1 C2 C3 ⊢
 generalize w1.heap.size = gx at hg C3 ⊢
 clear B0 B1 B2
 dsimp only
 obtain ⟨ad', ea, c328⟩ := Kd.at_int (Kd.C_below HR.out C2.out) 328 (by omega) (by omega)
 obtain rfl := Option.some.inj ea
 clear ea
 replace c328 : W1.cell? ⟨ad.block, ad.off + 328, none⟩ = some (.int .u8 (rd l 328)) := c328
 obtain ⟨ad', ea, c329⟩ := Kd.at_int (Kd.C_below HR.out C2.out) 329 (by omega) (by omega)
 obtain rfl := Option.some.inj ea
 clear ea
 replace c329 : W1.cell? ⟨ad.block, ad.off + 329, none⟩ = some (.int .u8 (rd l 329)) := c329
 go_wp2_with fail
 go_quiet (fail)
 go_wp2_with fail
 (with_reducible refine (header_most.calls (rd l 328) _ _ (by unfold header_most.f; rw [if_pos h80])).mono ?_)
 rintro e' w' ⟨rfl, ⟨nd, rfl⟩⟩
 go_wp2_with fail
 refine (need_no 5 _).mono ?_
 rintro e' w' ⟨rfl, rfl⟩
 have D0 := blk_drewN (C0.out) (nq + nd)
 have D1 := blk_drewN (C1.out) (nq + nd)
 have D2 := pw_below_drewN C2.out (nq + nd)
 generalize W1.drewN (nq + nd) = W2 at D0 D1 D2 ⊢
 refine leaves_cons (f := 53) (args := #[.pointer (some ⟨w.heap.size + 1, 0, none⟩)]) (by simp) (by simp [go_sem]) ?_
 refine (parse_panicking ⟨w.heap.size + 1, 0, none⟩ 0 5 [] _ ((blk_cell (D1) 0).trans rfl) (blk_frozen (D1) 0)).mono ?_
 rintro e u' w'' ⟨rfl, rfl, rfl⟩
 have m0 : ((W2).setCell ⟨w.heap.size + 1, 0, none⟩ (.int .i64 5)).heap[w.heap.size]? = some (.cells #[.string ⟨#[]⟩, .int .u8 0, .int .i64 0, .bool false, .bool false, .bool false, .int .i64 0, .int .i64 0, .int .u8 0, .int .u16 0] 30 (0, 0)) := blk_far (D0) (by simp) _
 have m1 : ((W2).setCell ⟨w.heap.size + 1, 0, none⟩ (.int .i64 5)).heap[w.heap.size + 1]? = some (.cells #[.int .i64 5] 26 (0, 0)) := blk_put (D1) 0 _ rfl
 have m2 : Below w.heap.size w ((W2).setCell ⟨w.heap.size + 1, 0, none⟩ (.int .i64 5)) := below_set (D2) (Nat.le_succ _)
 generalize ((W2).setCell ⟨w.heap.size + 1, 0, none⟩ (.int .i64 5)) = Y at m0 m1 m2 ⊢
 have u0 : Y.cell? ⟨w.heap.size, 0, none⟩ = some (.string ⟨#[]⟩) := (blk_cell m0 0).trans rfl
 have u1 : Y.cell? ⟨w.heap.size, 1, none⟩ = some (.int .u8 0) := (blk_cell m0 1).trans rfl
 have u2 : Y.cell? ⟨w.heap.size, 2, none⟩ = some (.int .i64 0) := (blk_cell m0 2).trans rfl
 have u3 : Y.cell? ⟨w.heap.size, 3, none⟩ = some (.bool false) := (blk_cell m0 3).trans rfl
 have u4 : Y.cell? ⟨w.heap.size, 4, none⟩ = some (.bool false) := (blk_cell m0 4).trans rfl
 have u5 : Y.cell? ⟨w.heap.size, 5, none⟩ = some (.bool false) := (blk_cell m0 5).trans rfl
 have u6 : Y.cell? ⟨w.heap.size, 6, none⟩ = some (.int .i64 0) := (blk_cell m0 6).trans rfl
 have u7 : Y.cell? ⟨w.heap.size, 7, none⟩ = some (.int .i64 0) := (blk_cell m0 7).trans rfl
 have u8 : Y.cell? ⟨w.heap.size, 8, none⟩ = some (.int .u8 0) := (blk_cell m0 8).trans rfl
 have u9 : Y.cell? ⟨w.heap.size, 9, none⟩ = some (.int .u16 0) := (blk_cell m0 9).trans rfl
 have v0 : Y.cell? ⟨w.heap.size + 1, 0, none⟩ = some (.int .i64 5) := (blk_cell m1 0).trans rfl
 simp [Leaves, settle, results, Try.results28, go_sem, u0, u1, u2, u3, u4, u5, u6, u7, u8, u9, v0, m2]
theorem hparse_sum (A : Option Addr) (c : Nat) (l : List Int) (hl : 336 ≤ l.length) (w : World) (hr : Kd.C (Kd.int .u8) w A l.length l) (hc : l.length ≤ c) (hk : 0 ≤ rd l 327 ∧ rd l 327 ≤ 255) (hok : (wareT (rd l 327)).2.2.2.2 = true) (h80 : 0 ≤ rd l 328) (h8 : decide (rd l 328 ≤ 8) = true) (h5 : decide (rd l 329 ≤ 5) = true) (hm : decide ((l.length : Int) ≤ shl .i64 32768 (rd l 328)) = true) (hs : (rd l 333 == sumTo l 25) = false) :
  Calls Try.prog 28 #[.slice A l.length c] w fun e' w' => e' = .returned (.tuple #[.agg #[.string ⟨#[]⟩, .int .u8 0, .int .i64 0, .bool false, .bool false, .bool false, .int .i64 0, .int .i64 0, .int .u8 0, .int .u16 0], .int .i64 3]) ∧ Below w.heap.size w w' := by
 have hmf : ∀ (fn : Fn) (first cap : Array Value) (w : World), (Instr.makeFunc fn first cap).run Try.prog w = .ok (.func fn first cap) w := fun _ _ _ _ => rfl
 obtain ⟨ad, rfl, _⟩ := Kd.at_int hr 0 (by omega) (by omega)
 have HR := Aside0.mk hr
 have hli : (336 : Int) ≤ l.length := by omega
 have hci : (336 : Int) ≤ c := by omega
 clear hr
 go_enter_defers Try.func28, Try.ntmps28
 go_wp2_with fail
 have z0 := blk_alloc (blk_new w (.cells #[.string ⟨#[]⟩, .int .u8 0, .int .i64 0, .bool false, .bool false, .bool false, .int .i64 0, .int .i64 0, .int .u8 0, .int .u16 0] 30)) (.cells #[.int .i64 0] 26)
 have z1 := heap_alloc_new (w.alloc (.cells #[.string ⟨#[]⟩, .int .u8 0, .int .i64 0, .bool false, .bool false, .bool false, .int .i64 0, .int .i64 0, .int .u8 0, .int .u16 0] 30)) (.cells #[.int .i64 0] 26)
 rw [show (w.alloc (.cells #[.string ⟨#[]⟩, .int .u8 0, .int .i64 0, .bool false, .bool false, .bool false, .int .i64 0, .int .i64 0, .int .u8 0, .int .u16 0] 30)).heap.size = w.heap.size + 1 by simp] at z1
 have z2 := below_alloc (below_alloc (Below.refl w.heap.size w) (.cells #[.string ⟨#[]⟩, .int .u8 0, .int .i64 0, .bool false, .bool false, .bool false, .int .i64 0, .int .i64 0, .int .u8 0, .int .u16 0] 30)) (.cells #[.int .i64 0] 26)
 generalize (w.alloc (.cells #[.string ⟨#[]⟩, .int .u8 0, .int .i64 0, .bool false, .bool false, .bool false, .int .i64 0, .int .i64 0, .int .u8 0, .int .u16 0] 30)).alloc (.cells #[.int .i64 0] 26) = W0 at z0 z1 z2 ⊢
 refine (need_ok 2 _).mono ?_
 rintro e' w' ⟨rfl, hw⟩
 replace hw := hw.symm
 subst hw
 obtain ⟨ad', ea, c327⟩ := Kd.at_int (Kd.C_below HR.out z2) 327 (by omega) (by omega)
 obtain rfl := Option.some.inj ea
 clear ea
 replace c327 : W0.cell? ⟨ad.block, ad.off + 327, none⟩ = some (.int .u8 (rd l 327)) := c327
 go_wp2_with fail
 refine (header_ware.calls (rd l 327) hk _).mono ?_
 rintro e' w1 ⟨rfl, hb⟩
 have B0 := Aside0.mk (blk_below z0 hb)
 have B1 := Aside0.mk (blk_below z1 hb)
 have B2 := Aside0.mk (Below.trans z2 (hb.mono z2.size))
 clear z0 z1 z2 hb c327
 rw [hok]
 go_wp2_with fail
 refine (need_ok 4 _).mono ?_
 rintro e' w' ⟨rfl, rfl⟩
 have hg : w.heap.size + 1 < w1.heap.size := blk_lt B1.out
 have C0 := Aside0.mk (blk_alloc B0.out (.cells #[.string ⟨#[]⟩, .int .u8 (rd l 327), .int .i64 (wareT (rd l 327)).1, .bool (wareT (rd l 327)).2.1, .bool (wareT (rd l 327)).2.2.1, .bool (wareT (rd l 327)).2.2.2.1, .int .i64 0, .int .i64 0, .int .u8 0, .int .u16 0] 30))
 have C1 := Aside0.mk (blk_alloc B1.out (.cells #[.string ⟨#[]⟩, .int .u8 (rd l 327), .int .i64 (wareT (rd l 327)).1, .bool (wareT (rd l 327)).2.1, .bool (wareT (rd l 327)).2.2.1, .bool (wareT (rd l 327)).2.2.2.1, .int .i64 0, .int .i64 0, .int .u8 0, .int .u16 0] 30))
 have C2 := Aside0.mk (below_alloc B2.out (.cells #[.string ⟨#[]⟩, .int .u8 (rd l 327), .int .i64 (wareT (rd l 327)).1, .bool (wareT (rd l 327)).2.1, .bool (wareT (rd l 327)).2.2.1, .bool (wareT (rd l 327)).2.2.2.1, .int .i64 0, .int .i64 0, .int .u8 0, .int .u16 0] 30))
 have C3 := Aside0.mk (heap_alloc_new w1 (.cells #[.string ⟨#[]⟩, .int .u8 (rd l 327), .int .i64 (wareT (rd l 327)).1, .bool (wareT (rd l 327)).2.1, .bool (wareT (rd l 327)).2.2.1, .bool (wareT (rd l 327)).2.2.2.1, .int .i64 0, .int .i64 0, .int .u8 0, .int .u16 0] 30))
 generalize w1.alloc (.cells #[.string ⟨#[]⟩, .int .u8 (rd l 327), .int .i64 (wareT (rd l 327)).1, .bool (wareT (rd l 327)).2.1, .bool (wareT (rd l 327)).2.2.1, .bool (wareT (rd l 327)).2.2.2.1, .int .i64 0, .int .i64 0, .int .u8 0, .int .u16 0] 30) = W1 at C0 C1 C2 C3 ⊢
 generalize w1.heap.size = gx at hg C3 ⊢
 clear B0 B1 B2
 dsimp only
 obtain ⟨ad', ea, c328⟩ := Kd.at_int (Kd.C_below HR.out C2.out) 328 (by omega) (by omega)
 obtain rfl := Option.some.inj ea
 clear ea
 replace c328 : W1.cell? ⟨ad.block, ad.off + 328, none⟩ = some (.int .u8 (rd l 328)) := c328
 obtain ⟨ad', ea, c329⟩ := Kd.at_int (Kd.C_below HR.out C2.out) 329 (by omega) (by omega)
 obtain rfl := Option.some.inj ea
 clear ea
 replace c329 : W1.cell? ⟨ad.block, ad.off + 329, none⟩ = some (.int .u8 (rd l 329)) := c329
 go_wp2_with fail
 go_quiet (fail)
 go_wp2_with fail
 (with_reducible refine (header_most.calls (rd l 328) _ _ (by unfold header_most.f; rw [if_pos h80])).mono ?_)
 rintro e' w' ⟨rfl, ⟨nd, rfl⟩⟩
 go_wp2_with fail
 refine (need_ok 5 _).mono ?_
 rintro e' w' ⟨rfl, rfl⟩
 clear c328 c329
 have D0 := Aside0.mk (blk_drewN C0.out (nq + nd))
 have D1 := Aside0.mk (blk_drewN C1.out (nq + nd))
 have D2 := Aside0.mk (pw_below_drewN C2.out (nq + nd))
 have D3 := Aside0.mk (blk_drewN C3.out (nq + nd))
 generalize W1.drewN (nq + nd) = W2 at D0 D1 D2 D3 ⊢
 dsimp only
 clear C0 C1 C2 C3
 obtain ⟨ad', ea, c333⟩ := Kd.at_int (Kd.C_below HR.out D2.out) 333 (by omega) (by omega)
 obtain rfl := Option.some.inj ea
 clear ea
 replace c333 : W2.cell? ⟨ad.block, ad.off + 333, none⟩ = some (.int .u8 (rd l 333)) := c333
 have hsum : header_sum.f l = some (sumTo l 25) := by unfold header_sum.f; rw [if_pos (by omega)]
 go_wp2_with fail
 have p333 : (333 : Int) < l.length := by omega
 have c333d : W2.drew.cell? ⟨ad.block, ad.off + 333, none⟩ = some (.int .u8 (rd l 333)) := c333
 go_still_tail 6, (by kernel_rfl)
 still_call (header_sum.calls _ c l (sumTo l 25) _ (Kd.C_below HR.out (below_drew1 D2.out)) hc hsum)
 repeat still_step
 refine wpStill_nil ?_
 change wpList _ _ _ _ _ W2.drew
 have F0 := blk_drew D0.out
 have F1 := blk_drew D1.out
 have F2 := below_drew1 D2.out
 have F3 := blk_drew D3.out
 generalize W2.drew = W3 at F0 F1 F2 F3 ⊢
 clear c333 c333d p333 hsum D0 D1 D2 D3
 go_wp2_with fail
 refine (need_no 3 _).mono ?_
 rintro e' w' ⟨rfl, hw⟩
 replace hw := hw.symm
 subst hw
 refine leaves_cons (f := 53) (args := #[.pointer (some ⟨w.heap.size + 1, 0, none⟩)]) (by simp) (by simp [go_sem]) ?_
 refine (parse_panicking ⟨w.heap.size + 1, 0, none⟩ 0 3 [] _ ((blk_cell (F1) 0).trans rfl) (blk_frozen (F1) 0)).mono ?_
 rintro e u' w'' ⟨rfl, rfl, rfl⟩
 have m0 : ((W3).setCell ⟨w.heap.size + 1, 0, none⟩ (.int .i64 3)).heap[w.heap.size]? = some (.cells #[.string ⟨#[]⟩, .int .u8 0, .int .i64 0, .bool false, .bool false, .bool false, .int .i64 0, .int .i64 0, .int .u8 0, .int .u16 0] 30 (0, 0)) := blk_far (F0) (by simp) _
 have m1 : ((W3).setCell ⟨w.heap.size + 1, 0, none⟩ (.int .i64 3)).heap[w.heap.size + 1]? = some (.cells #[.int .i64 3] 26 (0, 0)) := blk_put (F1) 0 _ rfl
 have m2 : Below w.heap.size w ((W3).setCell ⟨w.heap.size + 1, 0, none⟩ (.int .i64 3)) := below_set (F2) (Nat.le_succ _)
 generalize ((W3).setCell ⟨w.heap.size + 1, 0, none⟩ (.int .i64 3)) = Y at m0 m1 m2 ⊢
 have u0 : Y.cell? ⟨w.heap.size, 0, none⟩ = some (.string ⟨#[]⟩) := (blk_cell m0 0).trans rfl
 have u1 : Y.cell? ⟨w.heap.size, 1, none⟩ = some (.int .u8 0) := (blk_cell m0 1).trans rfl
 have u2 : Y.cell? ⟨w.heap.size, 2, none⟩ = some (.int .i64 0) := (blk_cell m0 2).trans rfl
 have u3 : Y.cell? ⟨w.heap.size, 3, none⟩ = some (.bool false) := (blk_cell m0 3).trans rfl
 have u4 : Y.cell? ⟨w.heap.size, 4, none⟩ = some (.bool false) := (blk_cell m0 4).trans rfl
 have u5 : Y.cell? ⟨w.heap.size, 5, none⟩ = some (.bool false) := (blk_cell m0 5).trans rfl
 have u6 : Y.cell? ⟨w.heap.size, 6, none⟩ = some (.int .i64 0) := (blk_cell m0 6).trans rfl
 have u7 : Y.cell? ⟨w.heap.size, 7, none⟩ = some (.int .i64 0) := (blk_cell m0 7).trans rfl
 have u8 : Y.cell? ⟨w.heap.size, 8, none⟩ = some (.int .u8 0) := (blk_cell m0 8).trans rfl
 have u9 : Y.cell? ⟨w.heap.size, 9, none⟩ = some (.int .u16 0) := (blk_cell m0 9).trans rfl
 have v0 : Y.cell? ⟨w.heap.size + 1, 0, none⟩ = some (.int .i64 3) := (blk_cell m1 0).trans rfl
 simp [Leaves, settle, results, Try.results28, go_sem, u0, u1, u2, u3, u4, u5, u6, u7, u8, u9, v0, m2]
end Go.Proofs.Ytmjjojbedllmgaa.Hand
end
section
namespace Go.Proofs.Ytmjjojbedllmgaa.Hand
open Go.RowKit
open Go.Proofs.Ytmjjojbedllmgaa.G
open Go.Proofs.YtmjjojbedllmgaaW.PrintWords Go.Proofs.YtmjjojbedllmgaaW.PrintLast Go.Proofs.YtmjjojbedllmgaaW.PrintMore
def prb (b : Int) : Bool := decide (b ≥ 32) && decide (b ≤ 126)
def titleTo (l : List Int) : Nat → Nat → Nat
 | 0, j => j
 | f + 1, j => if prb (rd l (308 + (j : Int))) = true then titleTo l f (j + 1) else j
def titleN (l : List Int) : Nat := titleTo l 16 0
theorem titleTo_le (l : List Int) : ∀ f j, j ≤ titleTo l f j ∧ titleTo l f j ≤ j + f
 | 0, j => ⟨Nat.le_refl _, Nat.le_refl _⟩
 | f + 1, j => by
  unfold titleTo
  have ih := titleTo_le l f (j + 1)
  split <;> omega
theorem prb_calls (b : Int) : header_printable.f b = some (prb b) := by
 unfold header_printable.f prb
 by_cases h : b ≥ 32
 ·rw [if_pos h, decide_eq_true h]; rfl
 ·rw [if_neg h, decide_eq_false h]; rfl
def sizeT (m : Int) : Int := if m = 1 then 2048 else if m = 2 then 8192 else if m = 3 then 32768 else if m = 4 then 131072 else if m = 5 then 65536 else 0
def ramT (r : Bool) (m : Int) : Int := if r = true then sizeT m else 0
theorem idx_ok (m : Int) (h : 0 ≤ m ∧ m ≤ 5) (W : World) : (Instr.index 103 (.agg #[.int .i64 0, .int .i64 2048, .int .i64 8192, .int .i64 32768, .int .i64 131072, .int .i64 65536]) (.int .u8 m)).run Try.prog W = .ok (.int .i64 (sizeT m)) W := by
 have h6 : m = 0 ∨ m = 1 ∨ m = 2 ∨ m = 3 ∨ m = 4 ∨ m = 5 := by omega
 rcases h6 with rfl | rfl | rfl | rfl | rfl | rfl <;> (first | rfl | kernel_rfl)
theorem hparse_ok (A : Option Addr) (c : Nat) (l : List Int) (hl : 336 ≤ l.length) (w : World) (hr : Kd.C (Kd.int .u8) w A l.length l) (hc : l.length ≤ c) (hk : 0 ≤ rd l 327 ∧ rd l 327 ≤ 255) (hok : (wareT (rd l 327)).2.2.2.2 = true) (h80 : 0 ≤ rd l 328) (h8 : decide (rd l 328 ≤ 8) = true) (h5 : decide (rd l 329 ≤ 5) = true) (hm : decide ((l.length : Int) ≤ shl .i64 32768 (rd l 328)) = true) (h50 : 0 ≤ rd l 329) (hs : (rd l 333 == sumTo l 25) = true) :
  Calls Try.prog 28 #[.slice A l.length c] w fun e' w' => e' = .returned (.tuple #[.agg #[.string (strOfNums ((l.take (308 + titleN l)).drop 308)), .int .u8 (rd l 327), .int .i64 (wareT (rd l 327)).1, .bool (wareT (rd l 327)).2.1, .bool (wareT (rd l 327)).2.2.1, .bool (wareT (rd l 327)).2.2.2.1, .int .i64 (wrap64 (2 * 2 ^ min (rd l 328).toNat 64)), .int .i64 (ramT (wareT (rd l 327)).2.1 (rd l 329)), .int .u8 (rd l 333), .int .u16 (Go.bits .or .u16 (IntKind.u16.wrap (IntKind.u16.wrap (rd l 334) * 256)) (IntKind.u16.wrap (rd l 335)))], .int .i64 0]) ∧ Below w.heap.size w w' := by
 have hmf : ∀ (fn : Fn) (first cap : Array Value) (w : World), (Instr.makeFunc fn first cap).run Try.prog w = .ok (.func fn first cap) w := fun _ _ _ _ => rfl
 obtain ⟨ad, rfl, _⟩ := Kd.at_int hr 0 (by omega) (by omega)
 have HR := Aside0.mk hr
 have hli : (336 : Int) ≤ l.length := by omega
 have hci : (336 : Int) ≤ c := by omega
 clear hr
 go_enter_defers Try.func28, Try.ntmps28
 go_wp2_with fail
 have z0 := blk_alloc (blk_new w (.cells #[.string ⟨#[]⟩, .int .u8 0, .int .i64 0, .bool false, .bool false, .bool false, .int .i64 0, .int .i64 0, .int .u8 0, .int .u16 0] 30)) (.cells #[.int .i64 0] 26)
 have z1 := heap_alloc_new (w.alloc (.cells #[.string ⟨#[]⟩, .int .u8 0, .int .i64 0, .bool false, .bool false, .bool false, .int .i64 0, .int .i64 0, .int .u8 0, .int .u16 0] 30)) (.cells #[.int .i64 0] 26)
 rw [show (w.alloc (.cells #[.string ⟨#[]⟩, .int .u8 0, .int .i64 0, .bool false, .bool false, .bool false, .int .i64 0, .int .i64 0, .int .u8 0, .int .u16 0] 30)).heap.size = w.heap.size + 1 by simp] at z1
 have z2 := below_alloc (below_alloc (Below.refl w.heap.size w) (.cells #[.string ⟨#[]⟩, .int .u8 0, .int .i64 0, .bool false, .bool false, .bool false, .int .i64 0, .int .i64 0, .int .u8 0, .int .u16 0] 30)) (.cells #[.int .i64 0] 26)
 generalize (w.alloc (.cells #[.string ⟨#[]⟩, .int .u8 0, .int .i64 0, .bool false, .bool false, .bool false, .int .i64 0, .int .i64 0, .int .u8 0, .int .u16 0] 30)).alloc (.cells #[.int .i64 0] 26) = W0 at z0 z1 z2 ⊢
 refine (need_ok 2 _).mono ?_
 rintro e' w' ⟨rfl, hw⟩
 replace hw := hw.symm
 subst hw
 obtain ⟨ad', ea, c327⟩ := Kd.at_int (Kd.C_below HR.out z2) 327 (by omega) (by omega)
 obtain rfl := Option.some.inj ea
 clear ea
 replace c327 : W0.cell? ⟨ad.block, ad.off + 327, none⟩ = some (.int .u8 (rd l 327)) := c327
 go_wp2_with fail
 refine (header_ware.calls (rd l 327) hk _).mono ?_
 rintro e' w1 ⟨rfl, hb⟩
 have B0 := Aside0.mk (blk_below z0 hb)
 have B1 := Aside0.mk (blk_below z1 hb)
 have B2 := Aside0.mk (Below.trans z2 (hb.mono z2.size))
 clear z0 z1 z2 hb c327
 rw [hok]
 go_wp2_with fail
 refine (need_ok 4 _).mono ?_
 rintro e' w' ⟨rfl, rfl⟩
 have hg : w.heap.size + 1 < w1.heap.size := blk_lt B1.out
 have C0 := Aside0.mk (blk_alloc B0.out (.cells #[.string ⟨#[]⟩, .int .u8 (rd l 327), .int .i64 (wareT (rd l 327)).1, .bool (wareT (rd l 327)).2.1, .bool (wareT (rd l 327)).2.2.1, .bool (wareT (rd l 327)).2.2.2.1, .int .i64 0, .int .i64 0, .int .u8 0, .int .u16 0] 30))
 have C1 := Aside0.mk (blk_alloc B1.out (.cells #[.string ⟨#[]⟩, .int .u8 (rd l 327), .int .i64 (wareT (rd l 327)).1, .bool (wareT (rd l 327)).2.1, .bool (wareT (rd l 327)).2.2.1, .bool (wareT (rd l 327)).2.2.2.1, .int .i64 0, .int .i64 0, .int .u8 0, .int .u16 0] 30))
 have C2 := Aside0.mk (below_alloc B2.out (.cells #[.string ⟨#[]⟩, .int .u8 (rd l 327), .int .i64 (wareT (rd l 327)).1, .bool (wareT (rd l 327)).2.1, .bool (wareT (rd l 327)).2.2.1, .bool (wareT (rd l 327)).2.2.2.1, .int .i64 0, .int .i64 0, .int .u8 0, .int .u16 0] 30))
 have C3 := Aside0.mk (heap_alloc_new w1 (.cells #[.string ⟨#[]⟩, .int .u8 (rd l 327), .int .i64 (wareT (rd l 327)).1, .bool (wareT (rd l 327)).2.1, .bool (wareT (rd l 327)).2.2.1, .bool (wareT (rd l 327)).2.2.2.1, .int .i64 0, .int .i64 0, .int .u8 0, .int .u16 0] 30))
 generalize w1.alloc (.cells #[.string ⟨#[]⟩, .int .u8 (rd l 327), .int .i64 (wareT (rd l 327)).1, .bool (wareT (rd l 327)).2.1, .bool (wareT (rd l 327)).2.2.1, .bool (wareT (rd l 327)).2.2.2.1, .int .i64 0, .int .i64 0, .int .u8 0, .int .u16 0] 30) = W1 at C0 C1 C2 C3 ⊢
 generalize w1.heap.size = gx at hg C3 ⊢
 clear B0 B1 B2
 dsimp only
 obtain ⟨ad', ea, c328⟩ := Kd.at_int (Kd.C_below HR.out C2.out) 328 (by omega) (by omega)
 obtain rfl := Option.some.inj ea
 clear ea
 replace c328 : W1.cell? ⟨ad.block, ad.off + 328, none⟩ = some (.int .u8 (rd l 328)) := c328
 obtain ⟨ad', ea, c329⟩ := Kd.at_int (Kd.C_below HR.out C2.out) 329 (by omega) (by omega)
 obtain rfl := Option.some.inj ea
 clear ea
 replace c329 : W1.cell? ⟨ad.block, ad.off + 329, none⟩ = some (.int .u8 (rd l 329)) := c329
 go_wp2_with fail
 go_quiet (fail)
 go_wp2_with fail
 (with_reducible refine (header_most.calls (rd l 328) _ _ (by unfold header_most.f; rw [if_pos h80])).mono ?_)
 rintro e' w' ⟨rfl, ⟨nd, rfl⟩⟩
 go_wp2_with fail
 refine (need_ok 5 _).mono ?_
 rintro e' w' ⟨rfl, rfl⟩
 clear c328 c329
 have D0 := Aside0.mk (blk_drewN C0.out (nq + nd))
 have D1 := Aside0.mk (blk_drewN C1.out (nq + nd))
 have D2 := Aside0.mk (pw_below_drewN C2.out (nq + nd))
 have D3 := Aside0.mk (blk_drewN C3.out (nq + nd))
 generalize W1.drewN (nq + nd) = W2 at D0 D1 D2 D3 ⊢
 dsimp only
 clear C0 C1 C2 C3
 obtain ⟨ad', ea, c333⟩ := Kd.at_int (Kd.C_below HR.out D2.out) 333 (by omega) (by omega)
 obtain rfl := Option.some.inj ea
 clear ea
 replace c333 : W2.cell? ⟨ad.block, ad.off + 333, none⟩ = some (.int .u8 (rd l 333)) := c333
 have hsum : header_sum.f l = some (sumTo l 25) := by unfold header_sum.f; rw [if_pos (by omega)]
 go_wp2_with fail
 have p333 : (333 : Int) < l.length := by omega
 have c333d : W2.drew.cell? ⟨ad.block, ad.off + 333, none⟩ = some (.int .u8 (rd l 333)) := c333
 go_still_tail 6, (by kernel_rfl)
 still_call (header_sum.calls _ c l (sumTo l 25) _ (Kd.C_below HR.out (below_drew1 D2.out)) hc hsum)
 repeat still_step
 refine wpStill_nil ?_
 change wpList _ _ _ _ _ W2.drew
 have F0 := blk_drew D0.out
 have F1 := blk_drew D1.out
 have F2 := below_drew1 D2.out
 have F3 := blk_drew D3.out
 generalize W2.drew = W3 at F0 F1 F2 F3 ⊢
 clear c333 c333d p333 hsum D0 D1 D2 D3
 go_wp2_with fail
 refine (need_ok 3 _).mono ?_
 rintro e' w' ⟨rfl, hw⟩
 replace hw := hw.symm
 subst hw
 go_wp2_with fail
 have hN := titleTo_le l 16 0
 go_loopw [8] (fun n w' => ∃ (j : Nat), n = .int .i64 j ∧ Aside0 (j ≤ 16 ∧ titleTo l (16 - j) j = titleN l ∧ w'.heap[w.heap.size]? = some (.cells #[.string ⟨#[]⟩, .int .u8 0, .int .i64 0, .bool false, .bool false, .bool false, .int .i64 0, .int .i64 0, .int .u8 0, .int .u16 0] 30 (0, 0)) ∧ w'.heap[w.heap.size + 1]? = some (.cells #[.int .i64 0] 26 (0, 0)) ∧ w'.heap[gx]? = some (.cells #[.string ⟨#[]⟩, .int .u8 (rd l 327), .int .i64 (wareT (rd l 327)).1, .bool (wareT (rd l 327)).2.1, .bool (wareT (rd l 327)).2.2.1, .bool (wareT (rd l 327)).2.2.2.1, .int .i64 0, .int .i64 0, .int .u8 0, .int .u16 0] 30 (0, 0)) ∧ Below w.heap.size w w')) (fun n _ => 20 - (intOf n).toNat)
 case atStart => exact ⟨0, rfl, Aside0.mk ⟨by omega, rfl, F0, F1, F3, F2⟩⟩
 case round =>
  obtain ⟨j, rfl, HA⟩ := hrel
  obtain ⟨hj, ht, f0, f1, f3, f2⟩ := HA.out
  clear HA F0 F1 F2 F3
  have F0 := Aside0.mk f0
  have F1 := Aside0.mk f1
  have F2 := Aside0.mk f2
  have F3 := Aside0.mk f3
  clear f0 f1 f2 f3
  by_cases hj16 : j = 16
  case' pos =>
   have hn : titleN l = j := by rw [← ht, hj16]; rfl
   have hnl : ¬ (j : Int) < 16 := by omega
   clear ht hj16
   generalize wr = W at F0 F1 F2 F3 ⊢
  case' neg =>
   have hlt : (j : Int) < 16 := by omega
   obtain ⟨ad', ea, cb⟩ := Kd.at_int (Kd.C_below HR.out F2.out) (308 + (j : Int)) (by omega) (by omega)
   obtain rfl := Option.some.inj ea
   clear ea
   rw [show (308 + (j : Int)).toNat = 308 + j by omega] at cb
   have cb' : wr.cell? ⟨ad.block, ad.off + (308 + j), none⟩ = some (.int .u8 (rd l (308 + (j : Int)))) := by simpa [Addr.add] using cb
   have hf : 16 - j = (15 - j) + 1 := by omega
   rw [hf, titleTo] at ht
   go_wp2_with fail
   (with_reducible refine (header_printable.calls _ _ _ (prb_calls _)).mono ?_)
   rintro e' w' ⟨rfl, ⟨nd, rfl⟩⟩
   cases hp : prb (rd l (308 + (j : Int)))
   case true =>
    rw [if_pos hp] at ht
    go_wp2_with fail
    refine ⟨⟨j + 1, by simp, Aside0.mk ⟨by omega, ?_, blk_drewN F0.out _, blk_drewN F1.out _, blk_drewN F3.out _, pw_below_drewN F2.out _⟩⟩, by simp [intOf]; omega⟩
    rw [show 16 - (j + 1) = 15 - j by omega]; exact ht
   case' false =>
    rw [if_neg (by rw [hp]; simp)] at ht
    have hn : titleN l = j := ht.symm
    have F0 := Aside0.mk (blk_drewN F0.out nd)
    have F1 := Aside0.mk (blk_drewN F1.out nd)
    have F2 := Aside0.mk (pw_below_drewN F2.out nd)
    have F3 := Aside0.mk (blk_drewN F3.out nd)
    clear ht cb cb' hf hp
    generalize wr.drewN nd = W at F0 F1 F2 F3 ⊢
  all_goals
   subst hn
   have hcj : (308 + (titleN l : Int)) ≤ c := by omega
   have KD : Kd.C (Kd.int .u8) W (some ⟨ad.block, ad.off + 308, none⟩) (titleN l) ((l.take (308 + titleN l)).drop 308) := by
    have q := Kd.C_drop (m := 308) (Kd.C_take (m := 308 + titleN l) (Kd.C_below HR.out F2.out) (by omega)) (by simp; omega) (show (l.take (308 + titleN l)).length ≤ c by simp; omega)
    have e : ((l.take (308 + titleN l)).drop 308).length = titleN l := by simp; omega
    rw [e, if_neg (by omega)] at q
    exact q
   have hcv : (convert 22 9 (.slice (some ⟨ad.block, ad.off + 308, none⟩) (titleN l) (c - 308))).run Try.prog W = .ok (.string (strOfNums ((l.take (308 + titleN l)).drop 308))) W := Kd.C_string Try.underlying22 Try.underlying5 Try.underlying9 KD
   have a0 : W.cell? ⟨gx, 0, none⟩ = some (.string ⟨#[]⟩) := (blk_cell F3.out 0).trans rfl
   have a1 : W.cell? ⟨gx, 1, none⟩ = some (.int .u8 (rd l 327)) := (blk_cell F3.out 1).trans rfl
   have a2 : W.cell? ⟨gx, 2, none⟩ = some (.int .i64 (wareT (rd l 327)).1) := (blk_cell F3.out 2).trans rfl
   have a3 : W.cell? ⟨gx, 3, none⟩ = some (.bool (wareT (rd l 327)).2.1) := (blk_cell F3.out 3).trans rfl
   have a4 : W.cell? ⟨gx, 4, none⟩ = some (.bool (wareT (rd l 327)).2.2.1) := (blk_cell F3.out 4).trans rfl
   have a5 : W.cell? ⟨gx, 5, none⟩ = some (.bool (wareT (rd l 327)).2.2.2.1) := (blk_cell F3.out 5).trans rfl
   have a6 : W.cell? ⟨gx, 6, none⟩ = some (.int .i64 0) := (blk_cell F3.out 6).trans rfl
   have a7 : W.cell? ⟨gx, 7, none⟩ = some (.int .i64 0) := (blk_cell F3.out 7).trans rfl
   have a8 : W.cell? ⟨gx, 8, none⟩ = some (.int .u8 0) := (blk_cell F3.out 8).trans rfl
   have a9 : W.cell? ⟨gx, 9, none⟩ = some (.int .u16 0) := (blk_cell F3.out 9).trans rfl
   have fz := fun i => blk_frozen F3.out i
   obtain ⟨ad', ea, c333⟩ := Kd.at_int (Kd.C_below HR.out F2.out) 333 (by omega) (by omega)
   obtain rfl := Option.some.inj ea
   clear ea
   replace c333 : W.cell? ⟨ad.block, ad.off + 333, none⟩ = some (.int .u8 (rd l 333)) := c333
   have hix := fun W => idx_ok (rd l 329) ⟨h50, of_decide_eq_true h5⟩ W
   cases hram : (wareT (rd l 327)).2.1 with
   | true =>
    rw [hram] at a3
    go_wp2_with fail
    have p : W.heap[gx]? = some (.cells #[.string ⟨#[]⟩, .int .u8 (rd l 327), .int .i64 (wareT (rd l 327)).1, .bool true, .bool (wareT (rd l 327)).2.2.1, .bool (wareT (rd l 327)).2.2.2.1, .int .i64 0, .int .i64 0, .int .u8 0, .int .u16 0] 30 (0, 0)) := by have q := F3.out; rw [hram] at q; exact q
    have p := blk_put (cs' := #[.string (strOfNums ((l.take (308 + titleN l)).drop 308)), .int .u8 (rd l 327), .int .i64 (wareT (rd l 327)).1, .bool true, .bool (wareT (rd l 327)).2.2.1, .bool (wareT (rd l 327)).2.2.2.1, .int .i64 0, .int .i64 0, .int .u8 0, .int .u16 0]) p 0 (.string (strOfNums ((l.take (308 + titleN l)).drop 308))) rfl
    have p := blk_put (cs' := #[.string (strOfNums ((l.take (308 + titleN l)).drop 308)), .int .u8 (rd l 327), .int .i64 (wareT (rd l 327)).1, .bool true, .bool (wareT (rd l 327)).2.2.1, .bool (wareT (rd l 327)).2.2.2.1, .int .i64 (wrap64 (2 * 2 ^ min (rd l 328).toNat 64)), .int .i64 0, .int .u8 0, .int .u16 0]) p 6 (.int .i64 (wrap64 (2 * 2 ^ min (rd l 328).toNat 64))) rfl
    have p := blk_put (cs' := #[.string (strOfNums ((l.take (308 + titleN l)).drop 308)), .int .u8 (rd l 327), .int .i64 (wareT (rd l 327)).1, .bool true, .bool (wareT (rd l 327)).2.2.1, .bool (wareT (rd l 327)).2.2.2.1, .int .i64 (wrap64 (2 * 2 ^ min (rd l 328).toNat 64)), .int .i64 (sizeT (rd l 329)), .int .u8 0, .int .u16 0]) p 7 (.int .i64 (sizeT (rd l 329))) rfl
    have p := blk_put (cs' := #[.string (strOfNums ((l.take (308 + titleN l)).drop 308)), .int .u8 (rd l 327), .int .i64 (wareT (rd l 327)).1, .bool true, .bool (wareT (rd l 327)).2.2.1, .bool (wareT (rd l 327)).2.2.2.1, .int .i64 (wrap64 (2 * 2 ^ min (rd l 328).toNat 64)), .int .i64 (sizeT (rd l 329)), .int .u8 (rd l 333), .int .u16 0]) p 8 (.int .u8 (rd l 333)) rfl
    have q0 : ((((W.setCell ⟨gx, 0, none⟩ (.string (strOfNums ((l.take (308 + titleN l)).drop 308)))).setCell ⟨gx, 6, none⟩ (.int .i64 (wrap64 (2 * 2 ^ min (rd l 328).toNat 64)))).setCell ⟨gx, 7, none⟩ (.int .i64 (sizeT (rd l 329)))).setCell ⟨gx, 8, none⟩ (.int .u8 (rd l 333))).heap[w.heap.size]? = some (.cells #[.string ⟨#[]⟩, .int .u8 0, .int .i64 0, .bool false, .bool false, .bool false, .int .i64 0, .int .i64 0, .int .u8 0, .int .u16 0] 30 (0, 0)) := (blk_far (blk_far (blk_far (blk_far F0.out (by simp; omega) _) (by simp; omega) _) (by simp; omega) _) (by simp; omega) _)
    have q1 : ((((W.setCell ⟨gx, 0, none⟩ (.string (strOfNums ((l.take (308 + titleN l)).drop 308)))).setCell ⟨gx, 6, none⟩ (.int .i64 (wrap64 (2 * 2 ^ min (rd l 328).toNat 64)))).setCell ⟨gx, 7, none⟩ (.int .i64 (sizeT (rd l 329)))).setCell ⟨gx, 8, none⟩ (.int .u8 (rd l 333))).heap[w.heap.size + 1]? = some (.cells #[.int .i64 0] 26 (0, 0)) := (blk_far (blk_far (blk_far (blk_far F1.out (by simp; omega) _) (by simp; omega) _) (by simp; omega) _) (by simp; omega) _)
    have q2 : Below w.heap.size w ((((W.setCell ⟨gx, 0, none⟩ (.string (strOfNums ((l.take (308 + titleN l)).drop 308)))).setCell ⟨gx, 6, none⟩ (.int .i64 (wrap64 (2 * 2 ^ min (rd l 328).toNat 64)))).setCell ⟨gx, 7, none⟩ (.int .i64 (sizeT (rd l 329)))).setCell ⟨gx, 8, none⟩ (.int .u8 (rd l 333))) := (below_set (below_set (below_set (below_set F2.out (by omega)) (by omega)) (by omega)) (by omega))
    clear a0 a1 a2 a3 a4 a5 a6 a7 a8 a9 c333 hcv KD fz
    generalize ((((W.setCell ⟨gx, 0, none⟩ (.string (strOfNums ((l.take (308 + titleN l)).drop 308)))).setCell ⟨gx, 6, none⟩ (.int .i64 (wrap64 (2 * 2 ^ min (rd l 328).toNat 64)))).setCell ⟨gx, 7, none⟩ (.int .i64 (sizeT (rd l 329)))).setCell ⟨gx, 8, none⟩ (.int .u8 (rd l 333))) = W4 at p q0 q1 q2 ⊢
    obtain ⟨ad', ea, c334⟩ := Kd.at_int (Kd.C_below HR.out q2) 334 (by omega) (by omega)
    obtain rfl := Option.some.inj ea
    clear ea
    replace c334 : W4.cell? ⟨ad.block, ad.off + 334, none⟩ = some (.int .u8 (rd l 334)) := c334
    have c334d : W4.drew.cell? ⟨ad.block, ad.off + 334, none⟩ = some (.int .u8 (rd l 334)) := (World.cell?_drew _ _).trans c334
    have p334 : (334 : Int) < l.length := Int.lt_of_lt_of_le (by decide) hli
    obtain ⟨ad', ea, c335⟩ := Kd.at_int (Kd.C_below HR.out q2) 335 (by omega) (by omega)
    obtain rfl := Option.some.inj ea
    clear ea
    replace c335 : W4.cell? ⟨ad.block, ad.off + 335, none⟩ = some (.int .u8 (rd l 335)) := c335
    have c335d : W4.drew.cell? ⟨ad.block, ad.off + 335, none⟩ = some (.int .u8 (rd l 335)) := (World.cell?_drew _ _).trans c335
    have p335 : (335 : Int) < l.length := Int.lt_of_lt_of_le (by decide) hli
    go_still_tail 11, (by kernel_rfl)
    change wpList _ _ _ _ _ W4.drew
    have p := blk_drew p
    have q0 := blk_drew q0
    have q1 := blk_drew q1
    have q2 := below_drew1 q2
    generalize W4.drew = W5 at p q0 q1 q2 ⊢
    clear c334 c335 c334d c335d p334 p335
    have x0 : W5.cell? ⟨gx, 0, none⟩ = some (.string (strOfNums ((l.take (308 + titleN l)).drop 308))) := (blk_cell p 0).trans rfl
    have x1 : W5.cell? ⟨gx, 1, none⟩ = some (.int .u8 (rd l 327)) := (blk_cell p 1).trans rfl
    have x2 : W5.cell? ⟨gx, 2, none⟩ = some (.int .i64 (wareT (rd l 327)).1) := (blk_cell p 2).trans rfl
    have x3 : W5.cell? ⟨gx, 3, none⟩ = some (.bool true) := (blk_cell p 3).trans rfl
    have x4 : W5.cell? ⟨gx, 4, none⟩ = some (.bool (wareT (rd l 327)).2.2.1) := (blk_cell p 4).trans rfl
    have x5 : W5.cell? ⟨gx, 5, none⟩ = some (.bool (wareT (rd l 327)).2.2.2.1) := (blk_cell p 5).trans rfl
    have x6 : W5.cell? ⟨gx, 6, none⟩ = some (.int .i64 (wrap64 (2 * 2 ^ min (rd l 328).toNat 64))) := (blk_cell p 6).trans rfl
    have x7 : W5.cell? ⟨gx, 7, none⟩ = some (.int .i64 (sizeT (rd l 329))) := (blk_cell p 7).trans rfl
    have x8 : W5.cell? ⟨gx, 8, none⟩ = some (.int .u8 (rd l 333)) := (blk_cell p 8).trans rfl
    have x9 : W5.cell? ⟨gx, 9, none⟩ = some (.int .u16 0) := (blk_cell p 9).trans rfl
    have y0 : W5.cell? ⟨w.heap.size, 0, none⟩ = some (.string ⟨#[]⟩) := (blk_cell q0 0).trans rfl
    have y1 : W5.cell? ⟨w.heap.size, 1, none⟩ = some (.int .u8 0) := (blk_cell q0 1).trans rfl
    have y2 : W5.cell? ⟨w.heap.size, 2, none⟩ = some (.int .i64 0) := (blk_cell q0 2).trans rfl
    have y3 : W5.cell? ⟨w.heap.size, 3, none⟩ = some (.bool false) := (blk_cell q0 3).trans rfl
    have y4 : W5.cell? ⟨w.heap.size, 4, none⟩ = some (.bool false) := (blk_cell q0 4).trans rfl
    have y5 : W5.cell? ⟨w.heap.size, 5, none⟩ = some (.bool false) := (blk_cell q0 5).trans rfl
    have y6 : W5.cell? ⟨w.heap.size, 6, none⟩ = some (.int .i64 0) := (blk_cell q0 6).trans rfl
    have y7 : W5.cell? ⟨w.heap.size, 7, none⟩ = some (.int .i64 0) := (blk_cell q0 7).trans rfl
    have y8 : W5.cell? ⟨w.heap.size, 8, none⟩ = some (.int .u8 0) := (blk_cell q0 8).trans rfl
    have y9 : W5.cell? ⟨w.heap.size, 9, none⟩ = some (.int .u16 0) := (blk_cell q0 9).trans rfl
    have e0 : W5.cell? ⟨w.heap.size + 1, 0, none⟩ = some (.int .i64 0) := (blk_cell q1 0).trans rfl
    have fx := fun i => blk_frozen p i
    have fh := fun i => blk_frozen q0 i
    have fe := fun i => blk_frozen q1 i
    have hne : ¬ w.heap.size = gx := by omega
    have hne1 : ¬ w.heap.size + 1 = gx := by omega
    have hne2 : ¬ gx = w.heap.size := by omega
    have hne3 : ¬ gx = w.heap.size + 1 := by omega
    go_wp2_with fail
    have m0 : (W5.setCell ⟨gx, 9, none⟩ (.int .u16 (Go.bits .or .u16 (IntKind.u16.wrap (IntKind.u16.wrap (rd l 334) * 256)) (IntKind.u16.wrap (rd l 335))))).heap[w.heap.size]? = some (.cells #[.string ⟨#[]⟩, .int .u8 0, .int .i64 0, .bool false, .bool false, .bool false, .int .i64 0, .int .i64 0, .int .u8 0, .int .u16 0] 30 (0, 0)) := blk_far q0 (by simp; omega) _
    have m0 := blk_put (cs' := #[.string (strOfNums ((l.take (308 + titleN l)).drop 308)), .int .u8 0, .int .i64 0, .bool false, .bool false, .bool false, .int .i64 0, .int .i64 0, .int .u8 0, .int .u16 0]) m0 0 (.string (strOfNums ((l.take (308 + titleN l)).drop 308))) rfl
    have m0 := blk_put (cs' := #[.string (strOfNums ((l.take (308 + titleN l)).drop 308)), .int .u8 (rd l 327), .int .i64 0, .bool false, .bool false, .bool false, .int .i64 0, .int .i64 0, .int .u8 0, .int .u16 0]) m0 1 (.int .u8 (rd l 327)) rfl
    have m0 := blk_put (cs' := #[.string (strOfNums ((l.take (308 + titleN l)).drop 308)), .int .u8 (rd l 327), .int .i64 (wareT (rd l 327)).1, .bool false, .bool false, .bool false, .int .i64 0, .int .i64 0, .int .u8 0, .int .u16 0]) m0 2 (.int .i64 (wareT (rd l 327)).1) rfl
    have m0 := blk_put (cs' := #[.string (strOfNums ((l.take (308 + titleN l)).drop 308)), .int .u8 (rd l 327), .int .i64 (wareT (rd l 327)).1, .bool true, .bool false, .bool false, .int .i64 0, .int .i64 0, .int .u8 0, .int .u16 0]) m0 3 (.bool true) rfl
    have m0 := blk_put (cs' := #[.string (strOfNums ((l.take (308 + titleN l)).drop 308)), .int .u8 (rd l 327), .int .i64 (wareT (rd l 327)).1, .bool true, .bool (wareT (rd l 327)).2.2.1, .bool false, .int .i64 0, .int .i64 0, .int .u8 0, .int .u16 0]) m0 4 (.bool (wareT (rd l 327)).2.2.1) rfl
    have m0 := blk_put (cs' := #[.string (strOfNums ((l.take (308 + titleN l)).drop 308)), .int .u8 (rd l 327), .int .i64 (wareT (rd l 327)).1, .bool true, .bool (wareT (rd l 327)).2.2.1, .bool (wareT (rd l 327)).2.2.2.1, .int .i64 0, .int .i64 0, .int .u8 0, .int .u16 0]) m0 5 (.bool (wareT (rd l 327)).2.2.2.1) rfl
    have m0 := blk_put (cs' := #[.string (strOfNums ((l.take (308 + titleN l)).drop 308)), .int .u8 (rd l 327), .int .i64 (wareT (rd l 327)).1, .bool true, .bool (wareT (rd l 327)).2.2.1, .bool (wareT (rd l 327)).2.2.2.1, .int .i64 (wrap64 (2 * 2 ^ min (rd l 328).toNat 64)), .int .i64 0, .int .u8 0, .int .u16 0]) m0 6 (.int .i64 (wrap64 (2 * 2 ^ min (rd l 328).toNat 64))) rfl
    have m0 := blk_put (cs' := #[.string (strOfNums ((l.take (308 + titleN l)).drop 308)), .int .u8 (rd l 327), .int .i64 (wareT (rd l 327)).1, .bool true, .bool (wareT (rd l 327)).2.2.1, .bool (wareT (rd l 327)).2.2.2.1, .int .i64 (wrap64 (2 * 2 ^ min (rd l 328).toNat 64)), .int .i64 (sizeT (rd l 329)), .int .u8 0, .int .u16 0]) m0 7 (.int .i64 (sizeT (rd l 329))) rfl
    have m0 := blk_put (cs' := #[.string (strOfNums ((l.take (308 + titleN l)).drop 308)), .int .u8 (rd l 327), .int .i64 (wareT (rd l 327)).1, .bool true, .bool (wareT (rd l 327)).2.2.1, .bool (wareT (rd l 327)).2.2.2.1, .int .i64 (wrap64 (2 * 2 ^ min (rd l 328).toNat 64)), .int .i64 (sizeT (rd l 329)), .int .u8 (rd l 333), .int .u16 0]) m0 8 (.int .u8 (rd l 333)) rfl
    have m0 := blk_put (cs' := #[.string (strOfNums ((l.take (308 + titleN l)).drop 308)), .int .u8 (rd l 327), .int .i64 (wareT (rd l 327)).1, .bool true, .bool (wareT (rd l 327)).2.2.1, .bool (wareT (rd l 327)).2.2.2.1, .int .i64 (wrap64 (2 * 2 ^ min (rd l 328).toNat 64)), .int .i64 (sizeT (rd l 329)), .int .u8 (rd l 333), .int .u16 (Go.bits .or .u16 (IntKind.u16.wrap (IntKind.u16.wrap (rd l 334) * 256)) (IntKind.u16.wrap (rd l 335)))]) m0 9 (.int .u16 (Go.bits .or .u16 (IntKind.u16.wrap (IntKind.u16.wrap (rd l 334) * 256)) (IntKind.u16.wrap (rd l 335)))) rfl
    have m0 : ((((((((((((W5.setCell ⟨gx, 9, none⟩ (.int .u16 (Go.bits .or .u16 (IntKind.u16.wrap (IntKind.u16.wrap (rd l 334) * 256)) (IntKind.u16.wrap (rd l 335))))).setCell ⟨w.heap.size, 0, none⟩ (.string (strOfNums ((l.take (308 + titleN l)).drop 308)))).setCell ⟨w.heap.size, 1, none⟩ (.int .u8 (rd l 327))).setCell ⟨w.heap.size, 2, none⟩ (.int .i64 (wareT (rd l 327)).1)).setCell ⟨w.heap.size, 3, none⟩ (.bool true)).setCell ⟨w.heap.size, 4, none⟩ (.bool (wareT (rd l 327)).2.2.1)).setCell ⟨w.heap.size, 5, none⟩ (.bool (wareT (rd l 327)).2.2.2.1)).setCell ⟨w.heap.size, 6, none⟩ (.int .i64 (wrap64 (2 * 2 ^ min (rd l 328).toNat 64)))).setCell ⟨w.heap.size, 7, none⟩ (.int .i64 (sizeT (rd l 329)))).setCell ⟨w.heap.size, 8, none⟩ (.int .u8 (rd l 333))).setCell ⟨w.heap.size, 9, none⟩ (.int .u16 (Go.bits .or .u16 (IntKind.u16.wrap (IntKind.u16.wrap (rd l 334) * 256)) (IntKind.u16.wrap (rd l 335))))).setCell ⟨w.heap.size + 1, 0, none⟩ (.int .i64 0)).heap[w.heap.size]? = some (.cells #[.string (strOfNums ((l.take (308 + titleN l)).drop 308)), .int .u8 (rd l 327), .int .i64 (wareT (rd l 327)).1, .bool true, .bool (wareT (rd l 327)).2.2.1, .bool (wareT (rd l 327)).2.2.2.1, .int .i64 (wrap64 (2 * 2 ^ min (rd l 328).toNat 64)), .int .i64 (sizeT (rd l 329)), .int .u8 (rd l 333), .int .u16 (Go.bits .or .u16 (IntKind.u16.wrap (IntKind.u16.wrap (rd l 334) * 256)) (IntKind.u16.wrap (rd l 335)))] 30 (0, 0)) := blk_far m0 (by simp) _
    have m1 : ((((((((((((W5.setCell ⟨gx, 9, none⟩ (.int .u16 (Go.bits .or .u16 (IntKind.u16.wrap (IntKind.u16.wrap (rd l 334) * 256)) (IntKind.u16.wrap (rd l 335))))).setCell ⟨w.heap.size, 0, none⟩ (.string (strOfNums ((l.take (308 + titleN l)).drop 308)))).setCell ⟨w.heap.size, 1, none⟩ (.int .u8 (rd l 327))).setCell ⟨w.heap.size, 2, none⟩ (.int .i64 (wareT (rd l 327)).1)).setCell ⟨w.heap.size, 3, none⟩ (.bool true)).setCell ⟨w.heap.size, 4, none⟩ (.bool (wareT (rd l 327)).2.2.1)).setCell ⟨w.heap.size, 5, none⟩ (.bool (wareT (rd l 327)).2.2.2.1)).setCell ⟨w.heap.size, 6, none⟩ (.int .i64 (wrap64 (2 * 2 ^ min (rd l 328).toNat 64)))).setCell ⟨w.heap.size, 7, none⟩ (.int .i64 (sizeT (rd l 329)))).setCell ⟨w.heap.size, 8, none⟩ (.int .u8 (rd l 333))).setCell ⟨w.heap.size, 9, none⟩ (.int .u16 (Go.bits .or .u16 (IntKind.u16.wrap (IntKind.u16.wrap (rd l 334) * 256)) (IntKind.u16.wrap (rd l 335))))).setCell ⟨w.heap.size + 1, 0, none⟩ (.int .i64 0)).heap[w.heap.size + 1]? = some (.cells #[.int .i64 0] 26 (0, 0)) := blk_put (blk_far (blk_far (blk_far (blk_far (blk_far (blk_far (blk_far (blk_far (blk_far (blk_far (blk_far q1 (by simp; omega) _) (by simp) _) (by simp) _) (by simp) _) (by simp) _) (by simp) _) (by simp) _) (by simp) _) (by simp) _) (by simp) _) (by simp) _) 0 _ rfl
    have m2 : Below w.heap.size w ((((((((((((W5.setCell ⟨gx, 9, none⟩ (.int .u16 (Go.bits .or .u16 (IntKind.u16.wrap (IntKind.u16.wrap (rd l 334) * 256)) (IntKind.u16.wrap (rd l 335))))).setCell ⟨w.heap.size, 0, none⟩ (.string (strOfNums ((l.take (308 + titleN l)).drop 308)))).setCell ⟨w.heap.size, 1, none⟩ (.int .u8 (rd l 327))).setCell ⟨w.heap.size, 2, none⟩ (.int .i64 (wareT (rd l 327)).1)).setCell ⟨w.heap.size, 3, none⟩ (.bool true)).setCell ⟨w.heap.size, 4, none⟩ (.bool (wareT (rd l 327)).2.2.1)).setCell ⟨w.heap.size, 5, none⟩ (.bool (wareT (rd l 327)).2.2.2.1)).setCell ⟨w.heap.size, 6, none⟩ (.int .i64 (wrap64 (2 * 2 ^ min (rd l 328).toNat 64)))).setCell ⟨w.heap.size, 7, none⟩ (.int .i64 (sizeT (rd l 329)))).setCell ⟨w.heap.size, 8, none⟩ (.int .u8 (rd l 333))).setCell ⟨w.heap.size, 9, none⟩ (.int .u16 (Go.bits .or .u16 (IntKind.u16.wrap (IntKind.u16.wrap (rd l 334) * 256)) (IntKind.u16.wrap (rd l 335))))).setCell ⟨w.heap.size + 1, 0, none⟩ (.int .i64 0)) := below_set (below_set (below_set (below_set (below_set (below_set (below_set (below_set (below_set (below_set (below_set (below_set q2 (by omega)) (Nat.le_refl _)) (Nat.le_refl _)) (Nat.le_refl _)) (Nat.le_refl _)) (Nat.le_refl _)) (Nat.le_refl _)) (Nat.le_refl _)) (Nat.le_refl _)) (Nat.le_refl _)) (Nat.le_refl _)) (Nat.le_succ _)
    generalize ((((((((((((W5.setCell ⟨gx, 9, none⟩ (.int .u16 (Go.bits .or .u16 (IntKind.u16.wrap (IntKind.u16.wrap (rd l 334) * 256)) (IntKind.u16.wrap (rd l 335))))).setCell ⟨w.heap.size, 0, none⟩ (.string (strOfNums ((l.take (308 + titleN l)).drop 308)))).setCell ⟨w.heap.size, 1, none⟩ (.int .u8 (rd l 327))).setCell ⟨w.heap.size, 2, none⟩ (.int .i64 (wareT (rd l 327)).1)).setCell ⟨w.heap.size, 3, none⟩ (.bool true)).setCell ⟨w.heap.size, 4, none⟩ (.bool (wareT (rd l 327)).2.2.1)).setCell ⟨w.heap.size, 5, none⟩ (.bool (wareT (rd l 327)).2.2.2.1)).setCell ⟨w.heap.size, 6, none⟩ (.int .i64 (wrap64 (2 * 2 ^ min (rd l 328).toNat 64)))).setCell ⟨w.heap.size, 7, none⟩ (.int .i64 (sizeT (rd l 329)))).setCell ⟨w.heap.size, 8, none⟩ (.int .u8 (rd l 333))).setCell ⟨w.heap.size, 9, none⟩ (.int .u16 (Go.bits .or .u16 (IntKind.u16.wrap (IntKind.u16.wrap (rd l 334) * 256)) (IntKind.u16.wrap (rd l 335))))).setCell ⟨w.heap.size + 1, 0, none⟩ (.int .i64 0)) = Y at m0 m1 m2 ⊢
    clear p q0 q1 q2 fx fh fe hne hne1 hne2 hne3 e0 x0 x1 x2 x3 x4 x5 x6 x7 x8 x9 y0 y1 y2 y3 y4 y5 y6 y7 y8 y9
    have u0 : Y.cell? ⟨w.heap.size, 0, none⟩ = some (.string (strOfNums ((l.take (308 + titleN l)).drop 308))) := (blk_cell m0 0).trans rfl
    have u1 : Y.cell? ⟨w.heap.size, 1, none⟩ = some (.int .u8 (rd l 327)) := (blk_cell m0 1).trans rfl
    have u2 : Y.cell? ⟨w.heap.size, 2, none⟩ = some (.int .i64 (wareT (rd l 327)).1) := (blk_cell m0 2).trans rfl
    have u3 : Y.cell? ⟨w.heap.size, 3, none⟩ = some (.bool true) := (blk_cell m0 3).trans rfl
    have u4 : Y.cell? ⟨w.heap.size, 4, none⟩ = some (.bool (wareT (rd l 327)).2.2.1) := (blk_cell m0 4).trans rfl
    have u5 : Y.cell? ⟨w.heap.size, 5, none⟩ = some (.bool (wareT (rd l 327)).2.2.2.1) := (blk_cell m0 5).trans rfl
    have u6 : Y.cell? ⟨w.heap.size, 6, none⟩ = some (.int .i64 (wrap64 (2 * 2 ^ min (rd l 328).toNat 64))) := (blk_cell m0 6).trans rfl
    have u7 : Y.cell? ⟨w.heap.size, 7, none⟩ = some (.int .i64 (sizeT (rd l 329))) := (blk_cell m0 7).trans rfl
    have u8 : Y.cell? ⟨w.heap.size, 8, none⟩ = some (.int .u8 (rd l 333)) := (blk_cell m0 8).trans rfl
    have u9 : Y.cell? ⟨w.heap.size, 9, none⟩ = some (.int .u16 (Go.bits .or .u16 (IntKind.u16.wrap (IntKind.u16.wrap (rd l 334) * 256)) (IntKind.u16.wrap (rd l 335)))) := (blk_cell m0 9).trans rfl
    have v0 : Y.cell? ⟨w.heap.size + 1, 0, none⟩ = some (.int .i64 0) := (blk_cell m1 0).trans rfl
    refine leaves_cons (f := 53) (args := #[.pointer (some ⟨w.heap.size + 1, 0, none⟩)]) (by simp) (by simp [go_sem]) ?_
    refine (parse_idle ⟨w.heap.size + 1, 0, none⟩ _).mono ?_
    rintro e u' w'' ⟨rfl, rfl, rfl⟩
    simp [Leaves, settle, results, Try.results28, go_sem, ramT, hram, u0, u1, u2, u3, u4, u5, u6, u7, u8, u9, v0, m2]
   | false =>
    rw [hram] at a3
    go_wp2_with fail
    have p : W.heap[gx]? = some (.cells #[.string ⟨#[]⟩, .int .u8 (rd l 327), .int .i64 (wareT (rd l 327)).1, .bool false, .bool (wareT (rd l 327)).2.2.1, .bool (wareT (rd l 327)).2.2.2.1, .int .i64 0, .int .i64 0, .int .u8 0, .int .u16 0] 30 (0, 0)) := by have q := F3.out; rw [hram] at q; exact q
    have p := blk_put (cs' := #[.string (strOfNums ((l.take (308 + titleN l)).drop 308)), .int .u8 (rd l 327), .int .i64 (wareT (rd l 327)).1, .bool false, .bool (wareT (rd l 327)).2.2.1, .bool (wareT (rd l 327)).2.2.2.1, .int .i64 0, .int .i64 0, .int .u8 0, .int .u16 0]) p 0 (.string (strOfNums ((l.take (308 + titleN l)).drop 308))) rfl
    have p := blk_put (cs' := #[.string (strOfNums ((l.take (308 + titleN l)).drop 308)), .int .u8 (rd l 327), .int .i64 (wareT (rd l 327)).1, .bool false, .bool (wareT (rd l 327)).2.2.1, .bool (wareT (rd l 327)).2.2.2.1, .int .i64 (wrap64 (2 * 2 ^ min (rd l 328).toNat 64)), .int .i64 0, .int .u8 0, .int .u16 0]) p 6 (.int .i64 (wrap64 (2 * 2 ^ min (rd l 328).toNat 64))) rfl
    have p := blk_put (cs' := #[.string (strOfNums ((l.take (308 + titleN l)).drop 308)), .int .u8 (rd l 327), .int .i64 (wareT (rd l 327)).1, .bool false, .bool (wareT (rd l 327)).2.2.1, .bool (wareT (rd l 327)).2.2.2.1, .int .i64 (wrap64 (2 * 2 ^ min (rd l 328).toNat 64)), .int .i64 0, .int .u8 (rd l 333), .int .u16 0]) p 8 (.int .u8 (rd l 333)) rfl
    have q0 : (((W.setCell ⟨gx, 0, none⟩ (.string (strOfNums ((l.take (308 + titleN l)).drop 308)))).setCell ⟨gx, 6, none⟩ (.int .i64 (wrap64 (2 * 2 ^ min (rd l 328).toNat 64)))).setCell ⟨gx, 8, none⟩ (.int .u8 (rd l 333))).heap[w.heap.size]? = some (.cells #[.string ⟨#[]⟩, .int .u8 0, .int .i64 0, .bool false, .bool false, .bool false, .int .i64 0, .int .i64 0, .int .u8 0, .int .u16 0] 30 (0, 0)) := (blk_far (blk_far (blk_far F0.out (by simp; omega) _) (by simp; omega) _) (by simp; omega) _)
    have q1 : (((W.setCell ⟨gx, 0, none⟩ (.string (strOfNums ((l.take (308 + titleN l)).drop 308)))).setCell ⟨gx, 6, none⟩ (.int .i64 (wrap64 (2 * 2 ^ min (rd l 328).toNat 64)))).setCell ⟨gx, 8, none⟩ (.int .u8 (rd l 333))).heap[w.heap.size + 1]? = some (.cells #[.int .i64 0] 26 (0, 0)) := (blk_far (blk_far (blk_far F1.out (by simp; omega) _) (by simp; omega) _) (by simp; omega) _)
    have q2 : Below w.heap.size w (((W.setCell ⟨gx, 0, none⟩ (.string (strOfNums ((l.take (308 + titleN l)).drop 308)))).setCell ⟨gx, 6, none⟩ (.int .i64 (wrap64 (2 * 2 ^ min (rd l 328).toNat 64)))).setCell ⟨gx, 8, none⟩ (.int .u8 (rd l 333))) := (below_set (below_set (below_set F2.out (by omega)) (by omega)) (by omega))
    clear a0 a1 a2 a3 a4 a5 a6 a7 a8 a9 c333 hcv KD fz
    generalize (((W.setCell ⟨gx, 0, none⟩ (.string (strOfNums ((l.take (308 + titleN l)).drop 308)))).setCell ⟨gx, 6, none⟩ (.int .i64 (wrap64 (2 * 2 ^ min (rd l 328).toNat 64)))).setCell ⟨gx, 8, none⟩ (.int .u8 (rd l 333))) = W4 at p q0 q1 q2 ⊢
    obtain ⟨ad', ea, c334⟩ := Kd.at_int (Kd.C_below HR.out q2) 334 (by omega) (by omega)
    obtain rfl := Option.some.inj ea
    clear ea
    replace c334 : W4.cell? ⟨ad.block, ad.off + 334, none⟩ = some (.int .u8 (rd l 334)) := c334
    have c334d : W4.drew.cell? ⟨ad.block, ad.off + 334, none⟩ = some (.int .u8 (rd l 334)) := (World.cell?_drew _ _).trans c334
    have p334 : (334 : Int) < l.length := Int.lt_of_lt_of_le (by decide) hli
    obtain ⟨ad', ea, c335⟩ := Kd.at_int (Kd.C_below HR.out q2) 335 (by omega) (by omega)
    obtain rfl := Option.some.inj ea
    clear ea
    replace c335 : W4.cell? ⟨ad.block, ad.off + 335, none⟩ = some (.int .u8 (rd l 335)) := c335
    have c335d : W4.drew.cell? ⟨ad.block, ad.off + 335, none⟩ = some (.int .u8 (rd l 335)) := (World.cell?_drew _ _).trans c335
    have p335 : (335 : Int) < l.length := Int.lt_of_lt_of_le (by decide) hli
    go_still_tail 11, (by kernel_rfl)
    change wpList _ _ _ _ _ W4.drew
    have p := blk_drew p
    have q0 := blk_drew q0
    have q1 := blk_drew q1
    have q2 := below_drew1 q2
    generalize W4.drew = W5 at p q0 q1 q2 ⊢
    clear c334 c335 c334d c335d p334 p335
    have x0 : W5.cell? ⟨gx, 0, none⟩ = some (.string (strOfNums ((l.take (308 + titleN l)).drop 308))) := (blk_cell p 0).trans rfl
    have x1 : W5.cell? ⟨gx, 1, none⟩ = some (.int .u8 (rd l 327)) := (blk_cell p 1).trans rfl
    have x2 : W5.cell? ⟨gx, 2, none⟩ = some (.int .i64 (wareT (rd l 327)).1) := (blk_cell p 2).trans rfl
    have x3 : W5.cell? ⟨gx, 3, none⟩ = some (.bool false) := (blk_cell p 3).trans rfl
    have x4 : W5.cell? ⟨gx, 4, none⟩ = some (.bool (wareT (rd l 327)).2.2.1) := (blk_cell p 4).trans rfl
    have x5 : W5.cell? ⟨gx, 5, none⟩ = some (.bool (wareT (rd l 327)).2.2.2.1) := (blk_cell p 5).trans rfl
    have x6 : W5.cell? ⟨gx, 6, none⟩ = some (.int .i64 (wrap64 (2 * 2 ^ min (rd l 328).toNat 64))) := (blk_cell p 6).trans rfl
    have x7 : W5.cell? ⟨gx, 7, none⟩ = some (.int .i64 0) := (blk_cell p 7).trans rfl
    have x8 : W5.cell? ⟨gx, 8, none⟩ = some (.int .u8 (rd l 333)) := (blk_cell p 8).trans rfl
    have x9 : W5.cell? ⟨gx, 9, none⟩ = some (.int .u16 0) := (blk_cell p 9).trans rfl
    have y0 : W5.cell? ⟨w.heap.size, 0, none⟩ = some (.string ⟨#[]⟩) := (blk_cell q0 0).trans rfl
    have y1 : W5.cell? ⟨w.heap.size, 1, none⟩ = some (.int .u8 0) := (blk_cell q0 1).trans rfl
    have y2 : W5.cell? ⟨w.heap.size, 2, none⟩ = some (.int .i64 0) := (blk_cell q0 2).trans rfl
    have y3 : W5.cell? ⟨w.heap.size, 3, none⟩ = some (.bool false) := (blk_cell q0 3).trans rfl
    have y4 : W5.cell? ⟨w.heap.size, 4, none⟩ = some (.bool false) := (blk_cell q0 4).trans rfl
    have y5 : W5.cell? ⟨w.heap.size, 5, none⟩ = some (.bool false) := (blk_cell q0 5).trans rfl
    have y6 : W5.cell? ⟨w.heap.size, 6, none⟩ = some (.int .i64 0) := (blk_cell q0 6).trans rfl
    have y7 : W5.cell? ⟨w.heap.size, 7, none⟩ = some (.int .i64 0) := (blk_cell q0 7).trans rfl
    have y8 : W5.cell? ⟨w.heap.size, 8, none⟩ = some (.int .u8 0) := (blk_cell q0 8).trans rfl
    have y9 : W5.cell? ⟨w.heap.size, 9, none⟩ = some (.int .u16 0) := (blk_cell q0 9).trans rfl
    have e0 : W5.cell? ⟨w.heap.size + 1, 0, none⟩ = some (.int .i64 0) := (blk_cell q1 0).trans rfl
    have fx := fun i => blk_frozen p i
    have fh := fun i => blk_frozen q0 i
    have fe := fun i => blk_frozen q1 i
    have hne : ¬ w.heap.size = gx := by omega
    have hne1 : ¬ w.heap.size + 1 = gx := by omega
    have hne2 : ¬ gx = w.heap.size := by omega
    have hne3 : ¬ gx = w.heap.size + 1 := by omega
    go_wp2_with fail
    have m0 : (W5.setCell ⟨gx, 9, none⟩ (.int .u16 (Go.bits .or .u16 (IntKind.u16.wrap (IntKind.u16.wrap (rd l 334) * 256)) (IntKind.u16.wrap (rd l 335))))).heap[w.heap.size]? = some (.cells #[.string ⟨#[]⟩, .int .u8 0, .int .i64 0, .bool false, .bool false, .bool false, .int .i64 0, .int .i64 0, .int .u8 0, .int .u16 0] 30 (0, 0)) := blk_far q0 (by simp; omega) _
    have m0 := blk_put (cs' := #[.string (strOfNums ((l.take (308 + titleN l)).drop 308)), .int .u8 0, .int .i64 0, .bool false, .bool false, .bool false, .int .i64 0, .int .i64 0, .int .u8 0, .int .u16 0]) m0 0 (.string (strOfNums ((l.take (308 + titleN l)).drop 308))) rfl
    have m0 := blk_put (cs' := #[.string (strOfNums ((l.take (308 + titleN l)).drop 308)), .int .u8 (rd l 327), .int .i64 0, .bool false, .bool false, .bool false, .int .i64 0, .int .i64 0, .int .u8 0, .int .u16 0]) m0 1 (.int .u8 (rd l 327)) rfl
    have m0 := blk_put (cs' := #[.string (strOfNums ((l.take (308 + titleN l)).drop 308)), .int .u8 (rd l 327), .int .i64 (wareT (rd l 327)).1, .bool false, .bool false, .bool false, .int .i64 0, .int .i64 0, .int .u8 0, .int .u16 0]) m0 2 (.int .i64 (wareT (rd l 327)).1) rfl
    have m0 := blk_put (cs' := #[.string (strOfNums ((l.take (308 + titleN l)).drop 308)), .int .u8 (rd l 327), .int .i64 (wareT (rd l 327)).1, .bool false, .bool false, .bool false, .int .i64 0, .int .i64 0, .int .u8 0, .int .u16 0]) m0 3 (.bool false) rfl
    have m0 := blk_put (cs' := #[.string (strOfNums ((l.take (308 + titleN l)).drop 308)), .int .u8 (rd l 327), .int .i64 (wareT (rd l 327)).1, .bool false, .bool (wareT (rd l 327)).2.2.1, .bool false, .int .i64 0, .int .i64 0, .int .u8 0, .int .u16 0]) m0 4 (.bool (wareT (rd l 327)).2.2.1) rfl
    have m0 := blk_put (cs' := #[.string (strOfNums ((l.take (308 + titleN l)).drop 308)), .int .u8 (rd l 327), .int .i64 (wareT (rd l 327)).1, .bool false, .bool (wareT (rd l 327)).2.2.1, .bool (wareT (rd l 327)).2.2.2.1, .int .i64 0, .int .i64 0, .int .u8 0, .int .u16 0]) m0 5 (.bool (wareT (rd l 327)).2.2.2.1) rfl
    have m0 := blk_put (cs' := #[.string (strOfNums ((l.take (308 + titleN l)).drop 308)), .int .u8 (rd l 327), .int .i64 (wareT (rd l 327)).1, .bool false, .bool (wareT (rd l 327)).2.2.1, .bool (wareT (rd l 327)).2.2.2.1, .int .i64 (wrap64 (2 * 2 ^ min (rd l 328).toNat 64)), .int .i64 0, .int .u8 0, .int .u16 0]) m0 6 (.int .i64 (wrap64 (2 * 2 ^ min (rd l 328).toNat 64))) rfl
    have m0 := blk_put (cs' := #[.string (strOfNums ((l.take (308 + titleN l)).drop 308)), .int .u8 (rd l 327), .int .i64 (wareT (rd l 327)).1, .bool false, .bool (wareT (rd l 327)).2.2.1, .bool (wareT (rd l 327)).2.2.2.1, .int .i64 (wrap64 (2 * 2 ^ min (rd l 328).toNat 64)), .int .i64 0, .int .u8 0, .int .u16 0]) m0 7 (.int .i64 0) rfl
    have m0 := blk_put (cs' := #[.string (strOfNums ((l.take (308 + titleN l)).drop 308)), .int .u8 (rd l 327), .int .i64 (wareT (rd l 327)).1, .bool false, .bool (wareT (rd l 327)).2.2.1, .bool (wareT (rd l 327)).2.2.2.1, .int .i64 (wrap64 (2 * 2 ^ min (rd l 328).toNat 64)), .int .i64 0, .int .u8 (rd l 333), .int .u16 0]) m0 8 (.int .u8 (rd l 333)) rfl
    have m0 := blk_put (cs' := #[.string (strOfNums ((l.take (308 + titleN l)).drop 308)), .int .u8 (rd l 327), .int .i64 (wareT (rd l 327)).1, .bool false, .bool (wareT (rd l 327)).2.2.1, .bool (wareT (rd l 327)).2.2.2.1, .int .i64 (wrap64 (2 * 2 ^ min (rd l 328).toNat 64)), .int .i64 0, .int .u8 (rd l 333), .int .u16 (Go.bits .or .u16 (IntKind.u16.wrap (IntKind.u16.wrap (rd l 334) * 256)) (IntKind.u16.wrap (rd l 335)))]) m0 9 (.int .u16 (Go.bits .or .u16 (IntKind.u16.wrap (IntKind.u16.wrap (rd l 334) * 256)) (IntKind.u16.wrap (rd l 335)))) rfl
    have m0 : ((((((((((((W5.setCell ⟨gx, 9, none⟩ (.int .u16 (Go.bits .or .u16 (IntKind.u16.wrap (IntKind.u16.wrap (rd l 334) * 256)) (IntKind.u16.wrap (rd l 335))))).setCell ⟨w.heap.size, 0, none⟩ (.string (strOfNums ((l.take (308 + titleN l)).drop 308)))).setCell ⟨w.heap.size, 1, none⟩ (.int .u8 (rd l 327))).setCell ⟨w.heap.size, 2, none⟩ (.int .i64 (wareT (rd l 327)).1)).setCell ⟨w.heap.size, 3, none⟩ (.bool false)).setCell ⟨w.heap.size, 4, none⟩ (.bool (wareT (rd l 327)).2.2.1)).setCell ⟨w.heap.size, 5, none⟩ (.bool (wareT (rd l 327)).2.2.2.1)).setCell ⟨w.heap.size, 6, none⟩ (.int .i64 (wrap64 (2 * 2 ^ min (rd l 328).toNat 64)))).setCell ⟨w.heap.size, 7, none⟩ (.int .i64 0)).setCell ⟨w.heap.size, 8, none⟩ (.int .u8 (rd l 333))).setCell ⟨w.heap.size, 9, none⟩ (.int .u16 (Go.bits .or .u16 (IntKind.u16.wrap (IntKind.u16.wrap (rd l 334) * 256)) (IntKind.u16.wrap (rd l 335))))).setCell ⟨w.heap.size + 1, 0, none⟩ (.int .i64 0)).heap[w.heap.size]? = some (.cells #[.string (strOfNums ((l.take (308 + titleN l)).drop 308)), .int .u8 (rd l 327), .int .i64 (wareT (rd l 327)).1, .bool false, .bool (wareT (rd l 327)).2.2.1, .bool (wareT (rd l 327)).2.2.2.1, .int .i64 (wrap64 (2 * 2 ^ min (rd l 328).toNat 64)), .int .i64 0, .int .u8 (rd l 333), .int .u16 (Go.bits .or .u16 (IntKind.u16.wrap (IntKind.u16.wrap (rd l 334) * 256)) (IntKind.u16.wrap (rd l 335)))] 30 (0, 0)) := blk_far m0 (by simp) _
    have m1 : ((((((((((((W5.setCell ⟨gx, 9, none⟩ (.int .u16 (Go.bits .or .u16 (IntKind.u16.wrap (IntKind.u16.wrap (rd l 334) * 256)) (IntKind.u16.wrap (rd l 335))))).setCell ⟨w.heap.size, 0, none⟩ (.string (strOfNums ((l.take (308 + titleN l)).drop 308)))).setCell ⟨w.heap.size, 1, none⟩ (.int .u8 (rd l 327))).setCell ⟨w.heap.size, 2, none⟩ (.int .i64 (wareT (rd l 327)).1)).setCell ⟨w.heap.size, 3, none⟩ (.bool false)).setCell ⟨w.heap.size, 4, none⟩ (.bool (wareT (rd l 327)).2.2.1)).setCell ⟨w.heap.size, 5, none⟩ (.bool (wareT (rd l 327)).2.2.2.1)).setCell ⟨w.heap.size, 6, none⟩ (.int .i64 (wrap64 (2 * 2 ^ min (rd l 328).toNat 64)))).setCell ⟨w.heap.size, 7, none⟩ (.int .i64 0)).setCell ⟨w.heap.size, 8, none⟩ (.int .u8 (rd l 333))).setCell ⟨w.heap.size, 9, none⟩ (.int .u16 (Go.bits .or .u16 (IntKind.u16.wrap (IntKind.u16.wrap (rd l 334) * 256)) (IntKind.u16.wrap (rd l 335))))).setCell ⟨w.heap.size + 1, 0, none⟩ (.int .i64 0)).heap[w.heap.size + 1]? = some (.cells #[.int .i64 0] 26 (0, 0)) := blk_put (blk_far (blk_far (blk_far (blk_far (blk_far (blk_far (blk_far (blk_far (blk_far (blk_far (blk_far q1 (by simp; omega) _) (by simp) _) (by simp) _) (by simp) _) (by simp) _) (by simp) _) (by simp) _) (by simp) _) (by simp) _) (by simp) _) (by simp) _) 0 _ rfl
    have m2 : Below w.heap.size w ((((((((((((W5.setCell ⟨gx, 9, none⟩ (.int .u16 (Go.bits .or .u16 (IntKind.u16.wrap (IntKind.u16.wrap (rd l 334) * 256)) (IntKind.u16.wrap (rd l 335))))).setCell ⟨w.heap.size, 0, none⟩ (.string (strOfNums ((l.take (308 + titleN l)).drop 308)))).setCell ⟨w.heap.size, 1, none⟩ (.int .u8 (rd l 327))).setCell ⟨w.heap.size, 2, none⟩ (.int .i64 (wareT (rd l 327)).1)).setCell ⟨w.heap.size, 3, none⟩ (.bool false)).setCell ⟨w.heap.size, 4, none⟩ (.bool (wareT (rd l 327)).2.2.1)).setCell ⟨w.heap.size, 5, none⟩ (.bool (wareT (rd l 327)).2.2.2.1)).setCell ⟨w.heap.size, 6, none⟩ (.int .i64 (wrap64 (2 * 2 ^ min (rd l 328).toNat 64)))).setCell ⟨w.heap.size, 7, none⟩ (.int .i64 0)).setCell ⟨w.heap.size, 8, none⟩ (.int .u8 (rd l 333))).setCell ⟨w.heap.size, 9, none⟩ (.int .u16 (Go.bits .or .u16 (IntKind.u16.wrap (IntKind.u16.wrap (rd l 334) * 256)) (IntKind.u16.wrap (rd l 335))))).setCell ⟨w.heap.size + 1, 0, none⟩ (.int .i64 0)) := below_set (below_set (below_set (below_set (below_set (below_set (below_set (below_set (below_set (below_set (below_set (below_set q2 (by omega)) (Nat.le_refl _)) (Nat.le_refl _)) (Nat.le_refl _)) (Nat.le_refl _)) (Nat.le_refl _)) (Nat.le_refl _)) (Nat.le_refl _)) (Nat.le_refl _)) (Nat.le_refl _)) (Nat.le_refl _)) (Nat.le_succ _)
    generalize ((((((((((((W5.setCell ⟨gx, 9, none⟩ (.int .u16 (Go.bits .or .u16 (IntKind.u16.wrap (IntKind.u16.wrap (rd l 334) * 256)) (IntKind.u16.wrap (rd l 335))))).setCell ⟨w.heap.size, 0, none⟩ (.string (strOfNums ((l.take (308 + titleN l)).drop 308)))).setCell ⟨w.heap.size, 1, none⟩ (.int .u8 (rd l 327))).setCell ⟨w.heap.size, 2, none⟩ (.int .i64 (wareT (rd l 327)).1)).setCell ⟨w.heap.size, 3, none⟩ (.bool false)).setCell ⟨w.heap.size, 4, none⟩ (.bool (wareT (rd l 327)).2.2.1)).setCell ⟨w.heap.size, 5, none⟩ (.bool (wareT (rd l 327)).2.2.2.1)).setCell ⟨w.heap.size, 6, none⟩ (.int .i64 (wrap64 (2 * 2 ^ min (rd l 328).toNat 64)))).setCell ⟨w.heap.size, 7, none⟩ (.int .i64 0)).setCell ⟨w.heap.size, 8, none⟩ (.int .u8 (rd l 333))).setCell ⟨w.heap.size, 9, none⟩ (.int .u16 (Go.bits .or .u16 (IntKind.u16.wrap (IntKind.u16.wrap (rd l 334) * 256)) (IntKind.u16.wrap (rd l 335))))).setCell ⟨w.heap.size + 1, 0, none⟩ (.int .i64 0)) = Y at m0 m1 m2 ⊢
    clear p q0 q1 q2 fx fh fe hne hne1 hne2 hne3 e0 x0 x1 x2 x3 x4 x5 x6 x7 x8 x9 y0 y1 y2 y3 y4 y5 y6 y7 y8 y9
    have u0 : Y.cell? ⟨w.heap.size, 0, none⟩ = some (.string (strOfNums ((l.take (308 + titleN l)).drop 308))) := (blk_cell m0 0).trans rfl
    have u1 : Y.cell? ⟨w.heap.size, 1, none⟩ = some (.int .u8 (rd l 327)) := (blk_cell m0 1).trans rfl
    have u2 : Y.cell? ⟨w.heap.size, 2, none⟩ = some (.int .i64 (wareT (rd l 327)).1) := (blk_cell m0 2).trans rfl
    have u3 : Y.cell? ⟨w.heap.size, 3, none⟩ = some (.bool false) := (blk_cell m0 3).trans rfl
    have u4 : Y.cell? ⟨w.heap.size, 4, none⟩ = some (.bool (wareT (rd l 327)).2.2.1) := (blk_cell m0 4).trans rfl
    have u5 : Y.cell? ⟨w.heap.size, 5, none⟩ = some (.bool (wareT (rd l 327)).2.2.2.1) := (blk_cell m0 5).trans rfl
    have u6 : Y.cell? ⟨w.heap.size, 6, none⟩ = some (.int .i64 (wrap64 (2 * 2 ^ min (rd l 328).toNat 64))) := (blk_cell m0 6).trans rfl
    have u7 : Y.cell? ⟨w.heap.size, 7, none⟩ = some (.int .i64 0) := (blk_cell m0 7).trans rfl
    have u8 : Y.cell? ⟨w.heap.size, 8, none⟩ = some (.int .u8 (rd l 333)) := (blk_cell m0 8).trans rfl
    have u9 : Y.cell? ⟨w.heap.size, 9, none⟩ = some (.int .u16 (Go.bits .or .u16 (IntKind.u16.wrap (IntKind.u16.wrap (rd l 334) * 256)) (IntKind.u16.wrap (rd l 335)))) := (blk_cell m0 9).trans rfl
    have v0 : Y.cell? ⟨w.heap.size + 1, 0, none⟩ = some (.int .i64 0) := (blk_cell m1 0).trans rfl
    refine leaves_cons (f := 53) (args := #[.pointer (some ⟨w.heap.size + 1, 0, none⟩)]) (by simp) (by simp [go_sem]) ?_
    refine (parse_idle ⟨w.heap.size + 1, 0, none⟩ _).mono ?_
    rintro e u' w'' ⟨rfl, rfl, rfl⟩
    simp [Leaves, settle, results, Try.results28, go_sem, ramT, hram, u0, u1, u2, u3, u4, u5, u6, u7, u8, u9, v0, m2]
end Go.Proofs.Ytmjjojbedllmgaa.Hand
end
section
namespace Go.Proofs.Ytmjjojbedllmgaa.Hand
open Go.RowKit
open Go.Proofs.Ytmjjojbedllmgaa.G
open Go.Proofs.YtmjjojbedllmgaaW.PrintWords Go.Proofs.YtmjjojbedllmgaaW.PrintLast Go.Proofs.YtmjjojbedllmgaaW.PrintMore
theorem hparse_short (A : Option Addr) (c : Nat) (l : List Int) (hl : ¬ (336 : Int) ≤ l.length) (w : World) :
  Calls Try.prog 28 #[.slice A l.length c] w fun e' w' => e' = .returned (.tuple #[.agg #[.string ⟨#[]⟩, .int .u8 0, .int .i64 0, .bool false, .bool false, .bool false, .int .i64 0, .int .i64 0, .int .u8 0, .int .u16 0], .int .i64 2]) ∧ Below w.heap.size w w' := by
 have hmf : ∀ (fn : Fn) (first cap : Array Value) (w : World), (Instr.makeFunc fn first cap).run Try.prog w = .ok (.func fn first cap) w := fun _ _ _ _ => rfl
 go_enter_defers Try.func28, Try.ntmps28
 go_wp2_with fail
 have z0 := blk_alloc (blk_new w (.cells #[.string ⟨#[]⟩, .int .u8 0, .int .i64 0, .bool false, .bool false, .bool false, .int .i64 0, .int .i64 0, .int .u8 0, .int .u16 0] 30)) (.cells #[.int .i64 0] 26)
 have z1 := heap_alloc_new (w.alloc (.cells #[.string ⟨#[]⟩, .int .u8 0, .int .i64 0, .bool false, .bool false, .bool false, .int .i64 0, .int .i64 0, .int .u8 0, .int .u16 0] 30)) (.cells #[.int .i64 0] 26)
 rw [show (w.alloc (.cells #[.string ⟨#[]⟩, .int .u8 0, .int .i64 0, .bool false, .bool false, .bool false, .int .i64 0, .int .i64 0, .int .u8 0, .int .u16 0] 30)).heap.size = w.heap.size + 1 by simp] at z1
 have z2 := below_alloc (below_alloc (Below.refl w.heap.size w) (.cells #[.string ⟨#[]⟩, .int .u8 0, .int .i64 0, .bool false, .bool false, .bool false, .int .i64 0, .int .i64 0, .int .u8 0, .int .u16 0] 30)) (.cells #[.int .i64 0] 26)
 generalize (w.alloc (.cells #[.string ⟨#[]⟩, .int .u8 0, .int .i64 0, .bool false, .bool false, .bool false, .int .i64 0, .int .i64 0, .int .u8 0, .int .u16 0] 30)).alloc (.cells #[.int .i64 0] 26) = W0 at z0 z1 z2 ⊢
 refine (need_no 2 _).mono ?_
 rintro e' w' ⟨rfl, hw⟩
 replace hw := hw.symm
 subst hw
 refine leaves_cons (f := 53) (args := #[.pointer (some ⟨w.heap.size + 1, 0, none⟩)]) (by simp) (by simp [go_sem]) ?_
 refine (parse_panicking ⟨w.heap.size + 1, 0, none⟩ 0 2 [] _ ((blk_cell (z1) 0).trans rfl) (blk_frozen (z1) 0)).mono ?_
 rintro e u' w'' ⟨rfl, rfl, rfl⟩
 have m0 : ((W0).setCell ⟨w.heap.size + 1, 0, none⟩ (.int .i64 2)).heap[w.heap.size]? = some (.cells #[.string ⟨#[]⟩, .int .u8 0, .int .i64 0, .bool false, .bool false, .bool false, .int .i64 0, .int .i64 0, .int .u8 0, .int .u16 0] 30 (0, 0)) := blk_far (z0) (by simp) _
 have m1 : ((W0).setCell ⟨w.heap.size + 1, 0, none⟩ (.int .i64 2)).heap[w.heap.size + 1]? = some (.cells #[.int .i64 2] 26 (0, 0)) := blk_put (z1) 0 _ rfl
 have m2 : Below w.heap.size w ((W0).setCell ⟨w.heap.size + 1, 0, none⟩ (.int .i64 2)) := below_set (z2) (Nat.le_succ _)
 generalize ((W0).setCell ⟨w.heap.size + 1, 0, none⟩ (.int .i64 2)) = Y at m0 m1 m2 ⊢
 have u0 : Y.cell? ⟨w.heap.size, 0, none⟩ = some (.string ⟨#[]⟩) := (blk_cell m0 0).trans rfl
 have u1 : Y.cell? ⟨w.heap.size, 1, none⟩ = some (.int .u8 0) := (blk_cell m0 1).trans rfl
 have u2 : Y.cell? ⟨w.heap.size, 2, none⟩ = some (.int .i64 0) := (blk_cell m0 2).trans rfl
 have u3 : Y.cell? ⟨w.heap.size, 3, none⟩ = some (.bool false) := (blk_cell m0 3).trans rfl
 have u4 : Y.cell? ⟨w.heap.size, 4, none⟩ = some (.bool false) := (blk_cell m0 4).trans rfl
 have u5 : Y.cell? ⟨w.heap.size, 5, none⟩ = some (.bool false) := (blk_cell m0 5).trans rfl
 have u6 : Y.cell? ⟨w.heap.size, 6, none⟩ = some (.int .i64 0) := (blk_cell m0 6).trans rfl
 have u7 : Y.cell? ⟨w.heap.size, 7, none⟩ = some (.int .i64 0) := (blk_cell m0 7).trans rfl
 have u8 : Y.cell? ⟨w.heap.size, 8, none⟩ = some (.int .u8 0) := (blk_cell m0 8).trans rfl
 have u9 : Y.cell? ⟨w.heap.size, 9, none⟩ = some (.int .u16 0) := (blk_cell m0 9).trans rfl
 have v0 : Y.cell? ⟨w.heap.size + 1, 0, none⟩ = some (.int .i64 2) := (blk_cell m1 0).trans rfl
 simp [Leaves, settle, results, Try.results28, go_sem, u0, u1, u2, u3, u4, u5, u6, u7, u8, u9, v0, m2]
def header_Parse.f (l : List Int) : Option (ByteArray × Int × Int × Bool × Bool × Bool × Int × Int × Int × Int × Int) :=
 if (336 : Int) ≤ l.length then
  if 0 ≤ rd l 327 ∧ rd l 327 ≤ 255 ∧ 0 ≤ rd l 328 ∧ 0 ≤ rd l 329 then
   if (wareT (rd l 327)).2.2.2.2 = true then
    if rd l 328 ≤ 8 ∧ rd l 329 ≤ 5 ∧ (l.length : Int) ≤ shl .i64 32768 (rd l 328) then
     if rd l 333 = sumTo l 25 then some ((strOfNums ((l.take (308 + titleN l)).drop 308)), rd l 327, (wareT (rd l 327)).1, (wareT (rd l 327)).2.1, (wareT (rd l 327)).2.2.1, (wareT (rd l 327)).2.2.2.1, wrap64 (2 * 2 ^ min (rd l 328).toNat 64), ramT (wareT (rd l 327)).2.1 (rd l 329), rd l 333, (Go.bits .or .u16 (IntKind.u16.wrap (IntKind.u16.wrap (rd l 334) * 256)) (IntKind.u16.wrap (rd l 335))), 0) else some ((⟨#[]⟩ : ByteArray), 0, 0, false, false, false, 0, 0, 0, 0, 3)
    else some ((⟨#[]⟩ : ByteArray), 0, 0, false, false, false, 0, 0, 0, 0, 5)
   else some ((⟨#[]⟩ : ByteArray), 0, 0, false, false, false, 0, 0, 0, 0, 4)
  else none
 else some ((⟨#[]⟩ : ByteArray), 0, 0, false, false, false, 0, 0, 0, 0, 2)
theorem header_Parse.calls (A0 : Option Addr) (c0 : Nat) (l0 : List Int) (r1 : ByteArray) (r2 : Int) (r3 : Int) (r4 : Bool) (r5 : Bool) (r6 : Bool) (r7 : Int) (r8 : Int) (r9 : Int) (r10 : Int) (r11 : Int) (w : World) (hr0 : Kd.C (Kd.int .u8) w A0 l0.length l0) (hc0 : l0.length ≤ c0) (h : header_Parse.f l0 = some (r1, r2, r3, r4, r5, r6, r7, r8, r9, r10, r11)) :
  Calls Try.prog 28 #[.slice A0 l0.length c0] w fun e w' => e = .returned (.tuple #[.agg #[.string r1, .int .u8 r2, .int .i64 r3, .bool r4, .bool r5, .bool r6, .int .i64 r7, .int .i64 r8, .int .u8 r9, .int .u16 r10], .int .i64 r11]) ∧ Below w.heap.size w w' := by
 unfold header_Parse.f at h
 by_cases hl : (336 : Int) ≤ l0.length
 case neg =>
  rw [if_neg hl] at h
  cases h
  exact hparse_short A0 c0 l0 hl w
 rw [if_pos hl] at h
 by_cases hk : 0 ≤ rd l0 327 ∧ rd l0 327 ≤ 255 ∧ 0 ≤ rd l0 328 ∧ 0 ≤ rd l0 329
 case neg => rw [if_neg hk] at h; cases h
 rw [if_pos hk] at h
 obtain ⟨k1, k2, k3, k4⟩ := hk
 have hn : 336 ≤ l0.length := by omega
 by_cases hok : (wareT (rd l0 327)).2.2.2.2 = true
 case neg =>
  rw [if_neg hok] at h
  cases h
  exact hparse_kind A0 c0 l0 hn w hr0 hc0 ⟨k1, k2⟩ (Bool.eq_false_iff.mpr hok)
 rw [if_pos hok] at h
 by_cases h8 : rd l0 328 ≤ 8
 case neg =>
  rw [if_neg (fun z => h8 z.1)] at h
  cases h
  exact hparse_size_a A0 c0 l0 hn w hr0 hc0 ⟨k1, k2⟩ hok (decide_eq_false h8)
 by_cases h5 : rd l0 329 ≤ 5
 case neg =>
  rw [if_neg (fun z => h5 z.2.1)] at h
  cases h
  exact hparse_size_b A0 c0 l0 hn w hr0 hc0 ⟨k1, k2⟩ hok (decide_eq_true h8) (decide_eq_false h5)
 by_cases hm : (l0.length : Int) ≤ shl .i64 32768 (rd l0 328)
 case neg =>
  rw [if_neg (fun z => hm z.2.2)] at h
  cases h
  exact hparse_size_c A0 c0 l0 hn w hr0 hc0 ⟨k1, k2⟩ hok k3 (decide_eq_true h8) (decide_eq_true h5) (decide_eq_false hm)
 rw [if_pos ⟨h8, h5, hm⟩] at h
 by_cases hs : rd l0 333 = sumTo l0 25
 case neg =>
  rw [if_neg hs] at h
  cases h
  exact hparse_sum A0 c0 l0 hn w hr0 hc0 ⟨k1, k2⟩ hok k3 (decide_eq_true h8) (decide_eq_true h5) (decide_eq_true hm) (beq_eq_false_iff_ne.mpr hs)
 rw [if_pos hs] at h
 cases h
 have q := hparse_ok A0 c0 l0 hn w hr0 hc0 ⟨k1, k2⟩ hok k3 (decide_eq_true h8) (decide_eq_true h5) (decide_eq_true hm) k4 (beq_iff_eq.mpr hs)
 exact q
end Go.Proofs.Ytmjjojbedllmgaa.Hand
end
section
namespace Go.Proofs.Ytmjjojbedllmgaa.G
open Go.RowKit Go.Proofs.YtmjjojbedllmgaaW.PrintWords Go.Proofs.YtmjjojbedllmgaaW.PrintLast Go.Proofs.YtmjjojbedllmgaaW.PrintMore
def mapper_New.f (a0 : Int) : Option (Int × Bool × Int × Int × Int × Bool × Int) := if a0 = 0 then (some (a0, false, 0, 0, 0, false, 0)) else (if a0 = 1 then (some (a0, false, 0, 0, 0, false, 0)) else (if a0 = 3 then (some (a0, false, 0, 0, 0, false, 0)) else (if a0 = 5 then (some (a0, false, 0, 0, 0, false, 0)) else (some (0, false, 0, 0, 0, false, 4)))))
theorem mapper_New.calls (a0 : Int) (r1 : Int) (r2 : Bool) (r3 : Int) (r4 : Int) (r5 : Int) (r6 : Bool) (r7 : Int) (w : World) (h : mapper_New.f a0 = some (r1, r2, r3, r4, r5, r6, r7)) :
  Calls Try.prog 29 #[.int .i64 a0] w fun e w' => e = .returned (.tuple #[.agg #[.int .i64 r1, .bool r2, .int .u8 r3, .int .u8 r4, .int .u8 r5, .bool r6], .int .i64 r7]) ∧ Below w.heap.size w w' := by
 unfold mapper_New.f at h
 by_cases k0 : a0 = 0
 ·rw [if_pos k0] at h
  subst k0
  simp only [Option.some.injEq, Prod.mk.injEq] at h
  obtain ⟨rfl, rfl, rfl, rfl, rfl, rfl, rfl⟩ := h
  go_enter Try.func29, Try.ntmps29
  go_wp2
  go_returns
  exact ⟨rfl, by go_grown⟩
 rw [if_neg k0] at h
 by_cases k1 : a0 = 1
 ·rw [if_pos k1] at h
  subst k1
  simp only [Option.some.injEq, Prod.mk.injEq] at h
  obtain ⟨rfl, rfl, rfl, rfl, rfl, rfl, rfl⟩ := h
  go_enter Try.func29, Try.ntmps29
  go_wp2
  go_returns
  exact ⟨rfl, by go_grown⟩
 rw [if_neg k1] at h
 by_cases k3 : a0 = 3
 ·rw [if_pos k3] at h
  subst k3
  simp only [Option.some.injEq, Prod.mk.injEq] at h
  obtain ⟨rfl, rfl, rfl, rfl, rfl, rfl, rfl⟩ := h
  go_enter Try.func29, Try.ntmps29
  go_wp2
  go_returns
  exact ⟨rfl, by go_grown⟩
 rw [if_neg k3] at h
 by_cases k5 : a0 = 5
 ·rw [if_pos k5] at h
  subst k5
  simp only [Option.some.injEq, Prod.mk.injEq] at h
  obtain ⟨rfl, rfl, rfl, rfl, rfl, rfl, rfl⟩ := h
  go_enter Try.func29, Try.ntmps29
  go_wp2
  go_returns
  exact ⟨rfl, by go_grown⟩
 rw [if_neg k5] at h
 simp only [Option.some.injEq, Prod.mk.injEq] at h
 obtain ⟨rfl, rfl, rfl, rfl, rfl, rfl, rfl⟩ := h
 replace k0 := beq_eq_false_iff_ne.mpr k0
 replace k1 := beq_eq_false_iff_ne.mpr k1
 replace k3 := beq_eq_false_iff_ne.mpr k3
 replace k5 := beq_eq_false_iff_ne.mpr k5
 go_enter Try.func29, Try.ntmps29
 go_wp2
 go_returns
 exact ⟨rfl, by go_grown⟩
end Go.Proofs.Ytmjjojbedllmgaa.G
end
