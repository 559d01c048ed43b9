/- What the proof of the statement CartPlays stands on, part 7. (Packed by pack.py out of this session's texts.) -/
import Derived.Deep.MidRow
import Derived.StillTailTactics
import Derived.Handy
import Derived.BigRegion
import Derived.Test.YtmjjojbedllmgaaQCartPlays0
import Derived.Test.YtmjjojbedllmgaaQCartPlays2
import Derived.Test.YtmjjojbedllmgaaQCartPlays6
set_option linter.unusedVariables false
set_option linter.unusedSimpArgs false
set_option maxRecDepth 100000
set_option maxHeartbeats 20000000
open Go.RowKit Go.Proofs.YtmjjojbedllmgaaW.PrintWords Go.Proofs.YtmjjojbedllmgaaW.PrintLast Go.Proofs.YtmjjojbedllmgaaW.PrintMore Go.Proofs.Ytmjjojbedllmgaa.G
namespace Go.Proofs.Ytmjjojbedllmgaa.Hand
theorem one0 (A : Option Addr) (c : Nat) (l : List Int) (hl : l.length = 5) (w : World) (hr : Kd.C (Kd.int .u8) w A l.length l)  (g0 : rd l 0 > 63) :
  Calls Try.prog 76 #[.slice A l.length c] w fun e' w' => e' = .returned (.tuple #[.agg #[.int .u8 0, .int .u8 0, .int .u8 0, .int .u16 0, .bool false, .bool false], .bool false]) ∧ Below w.heap.size w w' := by
 rw [hl] at hr ⊢
 obtain ⟨ad, ea, k0⟩ := Kd.at_int hr 0 (by omega) (by omega)
 subst ea
 have m0 : ∀ o, (w.alloc o).cell? ad = some (.int .u8 (rd l 0)) := fun o => by
  obtain ⟨ad', ea, k⟩ := Kd.at_int (Kd.C_alloc hr o) 0 (by omega) (by omega)
  obtain rfl := Option.some.inj ea
  simpa [Addr.add] using k
 have p0 : ∀ o o', ((w.alloc o).alloc o').cell? ad = some (.int .u8 (rd l 0)) := fun o o' => by
  obtain ⟨ad', ea, k⟩ := Kd.at_int (Kd.C_alloc (Kd.C_alloc hr o) o') 0 (by omega) (by omega)
  obtain rfl := Option.some.inj ea
  simpa [Addr.add] using k
 replace k0 : w.cell? ad = some (.int .u8 (rd l 0)) := by simpa [Addr.add] using k0
 obtain ⟨ad1, ea, k1⟩ := Kd.at_int hr 1 (by omega) (by omega)
 obtain rfl := Option.some.inj ea
 clear ea
 have m1 : ∀ o, (w.alloc o).cell? ⟨ad.block, ad.off + 1, none⟩ = some (.int .u8 (rd l 1)) := fun o => by
  obtain ⟨ad', ea, k⟩ := Kd.at_int (Kd.C_alloc hr o) 1 (by omega) (by omega)
  obtain rfl := Option.some.inj ea
  simpa [Addr.add] using k
 have p1 : ∀ o o', ((w.alloc o).alloc o').cell? ⟨ad.block, ad.off + 1, none⟩ = some (.int .u8 (rd l 1)) := fun o o' => by
  obtain ⟨ad', ea, k⟩ := Kd.at_int (Kd.C_alloc (Kd.C_alloc hr o) o') 1 (by omega) (by omega)
  obtain rfl := Option.some.inj ea
  simpa [Addr.add] using k
 replace k1 : w.cell? ⟨ad.block, ad.off + 1, none⟩ = some (.int .u8 (rd l 1)) := by simpa [Addr.add] using k1
 obtain ⟨ad2, ea, k2⟩ := Kd.at_int hr 2 (by omega) (by omega)
 obtain rfl := Option.some.inj ea
 clear ea
 have m2 : ∀ o, (w.alloc o).cell? ⟨ad.block, ad.off + 2, none⟩ = some (.int .u8 (rd l 2)) := fun o => by
  obtain ⟨ad', ea, k⟩ := Kd.at_int (Kd.C_alloc hr o) 2 (by omega) (by omega)
  obtain rfl := Option.some.inj ea
  simpa [Addr.add] using k
 have p2 : ∀ o o', ((w.alloc o).alloc o').cell? ⟨ad.block, ad.off + 2, none⟩ = some (.int .u8 (rd l 2)) := fun o o' => by
  obtain ⟨ad', ea, k⟩ := Kd.at_int (Kd.C_alloc (Kd.C_alloc hr o) o') 2 (by omega) (by omega)
  obtain rfl := Option.some.inj ea
  simpa [Addr.add] using k
 replace k2 : w.cell? ⟨ad.block, ad.off + 2, none⟩ = some (.int .u8 (rd l 2)) := by simpa [Addr.add] using k2
 obtain ⟨ad3, ea, k3⟩ := Kd.at_int hr 3 (by omega) (by omega)
 obtain rfl := Option.some.inj ea
 clear ea
 have m3 : ∀ o, (w.alloc o).cell? ⟨ad.block, ad.off + 3, none⟩ = some (.int .u8 (rd l 3)) := fun o => by
  obtain ⟨ad', ea, k⟩ := Kd.at_int (Kd.C_alloc hr o) 3 (by omega) (by omega)
  obtain rfl := Option.some.inj ea
  simpa [Addr.add] using k
 have p3 : ∀ o o', ((w.alloc o).alloc o').cell? ⟨ad.block, ad.off + 3, none⟩ = some (.int .u8 (rd l 3)) := fun o o' => by
  obtain ⟨ad', ea, k⟩ := Kd.at_int (Kd.C_alloc (Kd.C_alloc hr o) o') 3 (by omega) (by omega)
  obtain rfl := Option.some.inj ea
  simpa [Addr.add] using k
 replace k3 : w.cell? ⟨ad.block, ad.off + 3, none⟩ = some (.int .u8 (rd l 3)) := by simpa [Addr.add] using k3
 obtain ⟨ad4, ea, k4⟩ := Kd.at_int hr 4 (by omega) (by omega)
 obtain rfl := Option.some.inj ea
 clear ea
 have m4 : ∀ o, (w.alloc o).cell? ⟨ad.block, ad.off + 4, none⟩ = some (.int .u8 (rd l 4)) := fun o => by
  obtain ⟨ad', ea, k⟩ := Kd.at_int (Kd.C_alloc hr o) 4 (by omega) (by omega)
  obtain rfl := Option.some.inj ea
  simpa [Addr.add] using k
 have p4 : ∀ o o', ((w.alloc o).alloc o').cell? ⟨ad.block, ad.off + 4, none⟩ = some (.int .u8 (rd l 4)) := fun o o' => by
  obtain ⟨ad', ea, k⟩ := Kd.at_int (Kd.C_alloc (Kd.C_alloc hr o) o') 4 (by omega) (by omega)
  obtain rfl := Option.some.inj ea
  simpa [Addr.add] using k
 replace k4 : w.cell? ⟨ad.block, ad.off + 4, none⟩ = some (.int .u8 (rd l 4)) := by simpa [Addr.add] using k4
 clear hr
 go_enter Try.func76, Try.ntmps76
 go_wp2
 refine bodyPost_ret (v := .tuple #[.agg #[.int .u8 0, .int .u8 0, .int .u8 0, .int .u16 0, .bool false, .bool false], .bool false]) (by simp [results, Try.results76, go_sem]) rfl ⟨rfl, by go_grown⟩
theorem one1 (A : Option Addr) (c : Nat) (l : List Int) (hl : l.length = 5) (w : World) (hr : Kd.C (Kd.int .u8) w A l.length l) (g0 : ¬ rd l 0 > 63) (g1 : rd l 1 > 63) :
  Calls Try.prog 76 #[.slice A l.length c] w fun e' w' => e' = .returned (.tuple #[.agg #[.int .u8 0, .int .u8 0, .int .u8 0, .int .u16 0, .bool false, .bool false], .bool false]) ∧ Below w.heap.size w w' := by
 rw [hl] at hr ⊢
 obtain ⟨ad, ea, k0⟩ := Kd.at_int hr 0 (by omega) (by omega)
 subst ea
 have m0 : ∀ o, (w.alloc o).cell? ad = some (.int .u8 (rd l 0)) := fun o => by
  obtain ⟨ad', ea, k⟩ := Kd.at_int (Kd.C_alloc hr o) 0 (by omega) (by omega)
  obtain rfl := Option.some.inj ea
  simpa [Addr.add] using k
 have p0 : ∀ o o', ((w.alloc o).alloc o').cell? ad = some (.int .u8 (rd l 0)) := fun o o' => by
  obtain ⟨ad', ea, k⟩ := Kd.at_int (Kd.C_alloc (Kd.C_alloc hr o) o') 0 (by omega) (by omega)
  obtain rfl := Option.some.inj ea
  simpa [Addr.add] using k
 replace k0 : w.cell? ad = some (.int .u8 (rd l 0)) := by simpa [Addr.add] using k0
 obtain ⟨ad1, ea, k1⟩ := Kd.at_int hr 1 (by omega) (by omega)
 obtain rfl := Option.some.inj ea
 clear ea
 have m1 : ∀ o, (w.alloc o).cell? ⟨ad.block, ad.off + 1, none⟩ = some (.int .u8 (rd l 1)) := fun o => by
  obtain ⟨ad', ea, k⟩ := Kd.at_int (Kd.C_alloc hr o) 1 (by omega) (by omega)
  obtain rfl := Option.some.inj ea
  simpa [Addr.add] using k
 have p1 : ∀ o o', ((w.alloc o).alloc o').cell? ⟨ad.block, ad.off + 1, none⟩ = some (.int .u8 (rd l 1)) := fun o o' => by
  obtain ⟨ad', ea, k⟩ := Kd.at_int (Kd.C_alloc (Kd.C_alloc hr o) o') 1 (by omega) (by omega)
  obtain rfl := Option.some.inj ea
  simpa [Addr.add] using k
 replace k1 : w.cell? ⟨ad.block, ad.off + 1, none⟩ = some (.int .u8 (rd l 1)) := by simpa [Addr.add] using k1
 obtain ⟨ad2, ea, k2⟩ := Kd.at_int hr 2 (by omega) (by omega)
 obtain rfl := Option.some.inj ea
 clear ea
 have m2 : ∀ o, (w.alloc o).cell? ⟨ad.block, ad.off + 2, none⟩ = some (.int .u8 (rd l 2)) := fun o => by
  obtain ⟨ad', ea, k⟩ := Kd.at_int (Kd.C_alloc hr o) 2 (by omega) (by omega)
  obtain rfl := Option.some.inj ea
  simpa [Addr.add] using k
 have p2 : ∀ o o', ((w.alloc o).alloc o').cell? ⟨ad.block, ad.off + 2, none⟩ = some (.int .u8 (rd l 2)) := fun o o' => by
  obtain ⟨ad', ea, k⟩ := Kd.at_int (Kd.C_alloc (Kd.C_alloc hr o) o') 2 (by omega) (by omega)
  obtain rfl := Option.some.inj ea
  simpa [Addr.add] using k
 replace k2 : w.cell? ⟨ad.block, ad.off + 2, none⟩ = some (.int .u8 (rd l 2)) := by simpa [Addr.add] using k2
 obtain ⟨ad3, ea, k3⟩ := Kd.at_int hr 3 (by omega) (by omega)
 obtain rfl := Option.some.inj ea
 clear ea
 have m3 : ∀ o, (w.alloc o).cell? ⟨ad.block, ad.off + 3, none⟩ = some (.int .u8 (rd l 3)) := fun o => by
  obtain ⟨ad', ea, k⟩ := Kd.at_int (Kd.C_alloc hr o) 3 (by omega) (by omega)
  obtain rfl := Option.some.inj ea
  simpa [Addr.add] using k
 have p3 : ∀ o o', ((w.alloc o).alloc o').cell? ⟨ad.block, ad.off + 3, none⟩ = some (.int .u8 (rd l 3)) := fun o o' => by
  obtain ⟨ad', ea, k⟩ := Kd.at_int (Kd.C_alloc (Kd.C_alloc hr o) o') 3 (by omega) (by omega)
  obtain rfl := Option.some.inj ea
  simpa [Addr.add] using k
 replace k3 : w.cell? ⟨ad.block, ad.off + 3, none⟩ = some (.int .u8 (rd l 3)) := by simpa [Addr.add] using k3
 obtain ⟨ad4, ea, k4⟩ := Kd.at_int hr 4 (by omega) (by omega)
 obtain rfl := Option.some.inj ea
 clear ea
 have m4 : ∀ o, (w.alloc o).cell? ⟨ad.block, ad.off + 4, none⟩ = some (.int .u8 (rd l 4)) := fun o => by
  obtain ⟨ad', ea, k⟩ := Kd.at_int (Kd.C_alloc hr o) 4 (by omega) (by omega)
  obtain rfl := Option.some.inj ea
  simpa [Addr.add] using k
 have p4 : ∀ o o', ((w.alloc o).alloc o').cell? ⟨ad.block, ad.off + 4, none⟩ = some (.int .u8 (rd l 4)) := fun o o' => by
  obtain ⟨ad', ea, k⟩ := Kd.at_int (Kd.C_alloc (Kd.C_alloc hr o) o') 4 (by omega) (by omega)
  obtain rfl := Option.some.inj ea
  simpa [Addr.add] using k
 replace k4 : w.cell? ⟨ad.block, ad.off + 4, none⟩ = some (.int .u8 (rd l 4)) := by simpa [Addr.add] using k4
 clear hr
 go_enter Try.func76, Try.ntmps76
 go_wp2
 refine bodyPost_ret (v := .tuple #[.agg #[.int .u8 0, .int .u8 0, .int .u8 0, .int .u16 0, .bool false, .bool false], .bool false]) (by simp [results, Try.results76, go_sem]) rfl ⟨rfl, by go_grown⟩
theorem one2 (A : Option Addr) (c : Nat) (l : List Int) (hl : l.length = 5) (w : World) (hr : Kd.C (Kd.int .u8) w A l.length l) (g0 : ¬ rd l 0 > 63) (g1 : ¬ rd l 1 > 63) (g2 : rd l 2 > 31) :
  Calls Try.prog 76 #[.slice A l.length c] w fun e' w' => e' = .returned (.tuple #[.agg #[.int .u8 0, .int .u8 0, .int .u8 0, .int .u16 0, .bool false, .bool false], .bool false]) ∧ Below w.heap.size w w' := by
 rw [hl] at hr ⊢
 obtain ⟨ad, ea, k0⟩ := Kd.at_int hr 0 (by omega) (by omega)
 subst ea
 have m0 : ∀ o, (w.alloc o).cell? ad = some (.int .u8 (rd l 0)) := fun o => by
  obtain ⟨ad', ea, k⟩ := Kd.at_int (Kd.C_alloc hr o) 0 (by omega) (by omega)
  obtain rfl := Option.some.inj ea
  simpa [Addr.add] using k
 have p0 : ∀ o o', ((w.alloc o).alloc o').cell? ad = some (.int .u8 (rd l 0)) := fun o o' => by
  obtain ⟨ad', ea, k⟩ := Kd.at_int (Kd.C_alloc (Kd.C_alloc hr o) o') 0 (by omega) (by omega)
  obtain rfl := Option.some.inj ea
  simpa [Addr.add] using k
 replace k0 : w.cell? ad = some (.int .u8 (rd l 0)) := by simpa [Addr.add] using k0
 obtain ⟨ad1, ea, k1⟩ := Kd.at_int hr 1 (by omega) (by omega)
 obtain rfl := Option.some.inj ea
 clear ea
 have m1 : ∀ o, (w.alloc o).cell? ⟨ad.block, ad.off + 1, none⟩ = some (.int .u8 (rd l 1)) := fun o => by
  obtain ⟨ad', ea, k⟩ := Kd.at_int (Kd.C_alloc hr o) 1 (by omega) (by omega)
  obtain rfl := Option.some.inj ea
  simpa [Addr.add] using k
 have p1 : ∀ o o', ((w.alloc o).alloc o').cell? ⟨ad.block, ad.off + 1, none⟩ = some (.int .u8 (rd l 1)) := fun o o' => by
  obtain ⟨ad', ea, k⟩ := Kd.at_int (Kd.C_alloc (Kd.C_alloc hr o) o') 1 (by omega) (by omega)
  obtain rfl := Option.some.inj ea
  simpa [Addr.add] using k
 replace k1 : w.cell? ⟨ad.block, ad.off + 1, none⟩ = some (.int .u8 (rd l 1)) := by simpa [Addr.add] using k1
 obtain ⟨ad2, ea, k2⟩ := Kd.at_int hr 2 (by omega) (by omega)
 obtain rfl := Option.some.inj ea
 clear ea
 have m2 : ∀ o, (w.alloc o).cell? ⟨ad.block, ad.off + 2, none⟩ = some (.int .u8 (rd l 2)) := fun o => by
  obtain ⟨ad', ea, k⟩ := Kd.at_int (Kd.C_alloc hr o) 2 (by omega) (by omega)
  obtain rfl := Option.some.inj ea
  simpa [Addr.add] using k
 have p2 : ∀ o o', ((w.alloc o).alloc o').cell? ⟨ad.block, ad.off + 2, none⟩ = some (.int .u8 (rd l 2)) := fun o o' => by
  obtain ⟨ad', ea, k⟩ := Kd.at_int (Kd.C_alloc (Kd.C_alloc hr o) o') 2 (by omega) (by omega)
  obtain rfl := Option.some.inj ea
  simpa [Addr.add] using k
 replace k2 : w.cell? ⟨ad.block, ad.off + 2, none⟩ = some (.int .u8 (rd l 2)) := by simpa [Addr.add] using k2
 obtain ⟨ad3, ea, k3⟩ := Kd.at_int hr 3 (by omega) (by omega)
 obtain rfl := Option.some.inj ea
 clear ea
 have m3 : ∀ o, (w.alloc o).cell? ⟨ad.block, ad.off + 3, none⟩ = some (.int .u8 (rd l 3)) := fun o => by
  obtain ⟨ad', ea, k⟩ := Kd.at_int (Kd.C_alloc hr o) 3 (by omega) (by omega)
  obtain rfl := Option.some.inj ea
  simpa [Addr.add] using k
 have p3 : ∀ o o', ((w.alloc o).alloc o').cell? ⟨ad.block, ad.off + 3, none⟩ = some (.int .u8 (rd l 3)) := fun o o' => by
  obtain ⟨ad', ea, k⟩ := Kd.at_int (Kd.C_alloc (Kd.C_alloc hr o) o') 3 (by omega) (by omega)
  obtain rfl := Option.some.inj ea
  simpa [Addr.add] using k
 replace k3 : w.cell? ⟨ad.block, ad.off + 3, none⟩ = some (.int .u8 (rd l 3)) := by simpa [Addr.add] using k3
 obtain ⟨ad4, ea, k4⟩ := Kd.at_int hr 4 (by omega) (by omega)
 obtain rfl := Option.some.inj ea
 clear ea
 have m4 : ∀ o, (w.alloc o).cell? ⟨ad.block, ad.off + 4, none⟩ = some (.int .u8 (rd l 4)) := fun o => by
  obtain ⟨ad', ea, k⟩ := Kd.at_int (Kd.C_alloc hr o) 4 (by omega) (by omega)
  obtain rfl := Option.some.inj ea
  simpa [Addr.add] using k
 have p4 : ∀ o o', ((w.alloc o).alloc o').cell? ⟨ad.block, ad.off + 4, none⟩ = some (.int .u8 (rd l 4)) := fun o o' => by
  obtain ⟨ad', ea, k⟩ := Kd.at_int (Kd.C_alloc (Kd.C_alloc hr o) o') 4 (by omega) (by omega)
  obtain rfl := Option.some.inj ea
  simpa [Addr.add] using k
 replace k4 : w.cell? ⟨ad.block, ad.off + 4, none⟩ = some (.int .u8 (rd l 4)) := by simpa [Addr.add] using k4
 clear hr
 go_enter Try.func76, Try.ntmps76
 go_wp2
 refine bodyPost_ret (v := .tuple #[.agg #[.int .u8 0, .int .u8 0, .int .u8 0, .int .u16 0, .bool false, .bool false], .bool false]) (by simp [results, Try.results76, go_sem]) rfl ⟨rfl, by go_grown⟩
theorem one3 (A : Option Addr) (c : Nat) (l : List Int) (hl : l.length = 5) (w : World) (hr : Kd.C (Kd.int .u8) w A l.length l) (g0 : ¬ rd l 0 > 63) (g1 : ¬ rd l 1 > 63) (g2 : ¬ rd l 2 > 31) (g3 : Int.tmod (rd l 4) 64 > 1) :
  Calls Try.prog 76 #[.slice A l.length c] w fun e' w' => e' = .returned (.tuple #[.agg #[.int .u8 0, .int .u8 0, .int .u8 0, .int .u16 0, .bool false, .bool false], .bool false]) ∧ Below w.heap.size w w' := by
 rw [hl] at hr ⊢
 obtain ⟨ad, ea, k0⟩ := Kd.at_int hr 0 (by omega) (by omega)
 subst ea
 have m0 : ∀ o, (w.alloc o).cell? ad = some (.int .u8 (rd l 0)) := fun o => by
  obtain ⟨ad', ea, k⟩ := Kd.at_int (Kd.C_alloc hr o) 0 (by omega) (by omega)
  obtain rfl := Option.some.inj ea
  simpa [Addr.add] using k
 have p0 : ∀ o o', ((w.alloc o).alloc o').cell? ad = some (.int .u8 (rd l 0)) := fun o o' => by
  obtain ⟨ad', ea, k⟩ := Kd.at_int (Kd.C_alloc (Kd.C_alloc hr o) o') 0 (by omega) (by omega)
  obtain rfl := Option.some.inj ea
  simpa [Addr.add] using k
 replace k0 : w.cell? ad = some (.int .u8 (rd l 0)) := by simpa [Addr.add] using k0
 obtain ⟨ad1, ea, k1⟩ := Kd.at_int hr 1 (by omega) (by omega)
 obtain rfl := Option.some.inj ea
 clear ea
 have m1 : ∀ o, (w.alloc o).cell? ⟨ad.block, ad.off + 1, none⟩ = some (.int .u8 (rd l 1)) := fun o => by
  obtain ⟨ad', ea, k⟩ := Kd.at_int (Kd.C_alloc hr o) 1 (by omega) (by omega)
  obtain rfl := Option.some.inj ea
  simpa [Addr.add] using k
 have p1 : ∀ o o', ((w.alloc o).alloc o').cell? ⟨ad.block, ad.off + 1, none⟩ = some (.int .u8 (rd l 1)) := fun o o' => by
  obtain ⟨ad', ea, k⟩ := Kd.at_int (Kd.C_alloc (Kd.C_alloc hr o) o') 1 (by omega) (by omega)
  obtain rfl := Option.some.inj ea
  simpa [Addr.add] using k
 replace k1 : w.cell? ⟨ad.block, ad.off + 1, none⟩ = some (.int .u8 (rd l 1)) := by simpa [Addr.add] using k1
 obtain ⟨ad2, ea, k2⟩ := Kd.at_int hr 2 (by omega) (by omega)
 obtain rfl := Option.some.inj ea
 clear ea
 have m2 : ∀ o, (w.alloc o).cell? ⟨ad.block, ad.off + 2, none⟩ = some (.int .u8 (rd l 2)) := fun o => by
  obtain ⟨ad', ea, k⟩ := Kd.at_int (Kd.C_alloc hr o) 2 (by omega) (by omega)
  obtain rfl := Option.some.inj ea
  simpa [Addr.add] using k
 have p2 : ∀ o o', ((w.alloc o).alloc o').cell? ⟨ad.block, ad.off + 2, none⟩ = some (.int .u8 (rd l 2)) := fun o o' => by
  obtain ⟨ad', ea, k⟩ := Kd.at_int (Kd.C_alloc (Kd.C_alloc hr o) o') 2 (by omega) (by omega)
  obtain rfl := Option.some.inj ea
  simpa [Addr.add] using k
 replace k2 : w.cell? ⟨ad.block, ad.off + 2, none⟩ = some (.int .u8 (rd l 2)) := by simpa [Addr.add] using k2
 obtain ⟨ad3, ea, k3⟩ := Kd.at_int hr 3 (by omega) (by omega)
 obtain rfl := Option.some.inj ea
 clear ea
 have m3 : ∀ o, (w.alloc o).cell? ⟨ad.block, ad.off + 3, none⟩ = some (.int .u8 (rd l 3)) := fun o => by
  obtain ⟨ad', ea, k⟩ := Kd.at_int (Kd.C_alloc hr o) 3 (by omega) (by omega)
  obtain rfl := Option.some.inj ea
  simpa [Addr.add] using k
 have p3 : ∀ o o', ((w.alloc o).alloc o').cell? ⟨ad.block, ad.off + 3, none⟩ = some (.int .u8 (rd l 3)) := fun o o' => by
  obtain ⟨ad', ea, k⟩ := Kd.at_int (Kd.C_alloc (Kd.C_alloc hr o) o') 3 (by omega) (by omega)
  obtain rfl := Option.some.inj ea
  simpa [Addr.add] using k
 replace k3 : w.cell? ⟨ad.block, ad.off + 3, none⟩ = some (.int .u8 (rd l 3)) := by simpa [Addr.add] using k3
 obtain ⟨ad4, ea, k4⟩ := Kd.at_int hr 4 (by omega) (by omega)
 obtain rfl := Option.some.inj ea
 clear ea
 have m4 : ∀ o, (w.alloc o).cell? ⟨ad.block, ad.off + 4, none⟩ = some (.int .u8 (rd l 4)) := fun o => by
  obtain ⟨ad', ea, k⟩ := Kd.at_int (Kd.C_alloc hr o) 4 (by omega) (by omega)
  obtain rfl := Option.some.inj ea
  simpa [Addr.add] using k
 have p4 : ∀ o o', ((w.alloc o).alloc o').cell? ⟨ad.block, ad.off + 4, none⟩ = some (.int .u8 (rd l 4)) := fun o o' => by
  obtain ⟨ad', ea, k⟩ := Kd.at_int (Kd.C_alloc (Kd.C_alloc hr o) o') 4 (by omega) (by omega)
  obtain rfl := Option.some.inj ea
  simpa [Addr.add] using k
 replace k4 : w.cell? ⟨ad.block, ad.off + 4, none⟩ = some (.int .u8 (rd l 4)) := by simpa [Addr.add] using k4
 clear hr
 go_enter Try.func76, Try.ntmps76
 go_wp2
 refine bodyPost_ret (v := .tuple #[.agg #[.int .u8 0, .int .u8 0, .int .u8 0, .int .u16 0, .bool false, .bool false], .bool false]) (by simp [results, Try.results76, go_sem]) rfl ⟨rfl, by go_grown⟩
theorem one4 (A : Option Addr) (c : Nat) (l : List Int) (hl : l.length = 5) (w : World) (hr : Kd.C (Kd.int .u8) w A l.length l) (g0 : ¬ rd l 0 > 63) (g1 : ¬ rd l 1 > 63) (g2 : ¬ rd l 2 > 31) (g3 : ¬ Int.tmod (rd l 4) 64 > 1) :
  Calls Try.prog 76 #[.slice A l.length c] w fun e' w' => e' = .returned (.tuple #[.agg #[.int .u8 (rd l 0), .int .u8 (rd l 1), .int .u8 (rd l 2), .int .u16 (IntKind.u16.wrap (IntKind.u16.wrap (IntKind.u16.wrap (Int.tmod (rd l 4) 2) * 256) + IntKind.u16.wrap (rd l 3))), .bool (Int.tdiv (rd l 4) 64 % 256 % 2 == 1), .bool (decide (128 ≤ rd l 4))], .bool true]) ∧ Below w.heap.size w w' := by
 rw [hl] at hr ⊢
 obtain ⟨ad, ea, k0⟩ := Kd.at_int hr 0 (by omega) (by omega)
 subst ea
 have m0 : ∀ o, (w.alloc o).cell? ad = some (.int .u8 (rd l 0)) := fun o => by
  obtain ⟨ad', ea, k⟩ := Kd.at_int (Kd.C_alloc hr o) 0 (by omega) (by omega)
  obtain rfl := Option.some.inj ea
  simpa [Addr.add] using k
 have p0 : ∀ o o', ((w.alloc o).alloc o').cell? ad = some (.int .u8 (rd l 0)) := fun o o' => by
  obtain ⟨ad', ea, k⟩ := Kd.at_int (Kd.C_alloc (Kd.C_alloc hr o) o') 0 (by omega) (by omega)
  obtain rfl := Option.some.inj ea
  simpa [Addr.add] using k
 replace k0 : w.cell? ad = some (.int .u8 (rd l 0)) := by simpa [Addr.add] using k0
 obtain ⟨ad1, ea, k1⟩ := Kd.at_int hr 1 (by omega) (by omega)
 obtain rfl := Option.some.inj ea
 clear ea
 have m1 : ∀ o, (w.alloc o).cell? ⟨ad.block, ad.off + 1, none⟩ = some (.int .u8 (rd l 1)) := fun o => by
  obtain ⟨ad', ea, k⟩ := Kd.at_int (Kd.C_alloc hr o) 1 (by omega) (by omega)
  obtain rfl := Option.some.inj ea
  simpa [Addr.add] using k
 have p1 : ∀ o o', ((w.alloc o).alloc o').cell? ⟨ad.block, ad.off + 1, none⟩ = some (.int .u8 (rd l 1)) := fun o o' => by
  obtain ⟨ad', ea, k⟩ := Kd.at_int (Kd.C_alloc (Kd.C_alloc hr o) o') 1 (by omega) (by omega)
  obtain rfl := Option.some.inj ea
  simpa [Addr.add] using k
 replace k1 : w.cell? ⟨ad.block, ad.off + 1, none⟩ = some (.int .u8 (rd l 1)) := by simpa [Addr.add] using k1
 obtain ⟨ad2, ea, k2⟩ := Kd.at_int hr 2 (by omega) (by omega)
 obtain rfl := Option.some.inj ea
 clear ea
 have m2 : ∀ o, (w.alloc o).cell? ⟨ad.block, ad.off + 2, none⟩ = some (.int .u8 (rd l 2)) := fun o => by
  obtain ⟨ad', ea, k⟩ := Kd.at_int (Kd.C_alloc hr o) 2 (by omega) (by omega)
  obtain rfl := Option.some.inj ea
  simpa [Addr.add] using k
 have p2 : ∀ o o', ((w.alloc o).alloc o').cell? ⟨ad.block, ad.off + 2, none⟩ = some (.int .u8 (rd l 2)) := fun o o' => by
  obtain ⟨ad', ea, k⟩ := Kd.at_int (Kd.C_alloc (Kd.C_alloc hr o) o') 2 (by omega) (by omega)
  obtain rfl := Option.some.inj ea
  simpa [Addr.add] using k
 replace k2 : w.cell? ⟨ad.block, ad.off + 2, none⟩ = some (.int .u8 (rd l 2)) := by simpa [Addr.add] using k2
 obtain ⟨ad3, ea, k3⟩ := Kd.at_int hr 3 (by omega) (by omega)
 obtain rfl := Option.some.inj ea
 clear ea
 have m3 : ∀ o, (w.alloc o).cell? ⟨ad.block, ad.off + 3, none⟩ = some (.int .u8 (rd l 3)) := fun o => by
  obtain ⟨ad', ea, k⟩ := Kd.at_int (Kd.C_alloc hr o) 3 (by omega) (by omega)
  obtain rfl := Option.some.inj ea
  simpa [Addr.add] using k
 have p3 : ∀ o o', ((w.alloc o).alloc o').cell? ⟨ad.block, ad.off + 3, none⟩ = some (.int .u8 (rd l 3)) := fun o o' => by
  obtain ⟨ad', ea, k⟩ := Kd.at_int (Kd.C_alloc (Kd.C_alloc hr o) o') 3 (by omega) (by omega)
  obtain rfl := Option.some.inj ea
  simpa [Addr.add] using k
 replace k3 : w.cell? ⟨ad.block, ad.off + 3, none⟩ = some (.int .u8 (rd l 3)) := by simpa [Addr.add] using k3
 obtain ⟨ad4, ea, k4⟩ := Kd.at_int hr 4 (by omega) (by omega)
 obtain rfl := Option.some.inj ea
 clear ea
 have m4 : ∀ o, (w.alloc o).cell? ⟨ad.block, ad.off + 4, none⟩ = some (.int .u8 (rd l 4)) := fun o => by
  obtain ⟨ad', ea, k⟩ := Kd.at_int (Kd.C_alloc hr o) 4 (by omega) (by omega)
  obtain rfl := Option.some.inj ea
  simpa [Addr.add] using k
 have p4 : ∀ o o', ((w.alloc o).alloc o').cell? ⟨ad.block, ad.off + 4, none⟩ = some (.int .u8 (rd l 4)) := fun o o' => by
  obtain ⟨ad', ea, k⟩ := Kd.at_int (Kd.C_alloc (Kd.C_alloc hr o) o') 4 (by omega) (by omega)
  obtain rfl := Option.some.inj ea
  simpa [Addr.add] using k
 replace k4 : w.cell? ⟨ad.block, ad.off + 4, none⟩ = some (.int .u8 (rd l 4)) := by simpa [Addr.add] using k4
 clear hr
 go_enter Try.func76, Try.ntmps76
 go_wp2
 have bk := aC w (.cells #[.int .u8 0, .int .u8 0, .int .u8 0, .int .u16 0, .bool false, .bool false] 34)
 have hB := ac (Below.refl w.heap.size w) (.cells #[.int .u8 0, .int .u8 0, .int .u8 0, .int .u16 0, .bool false, .bool false] 34)
 have n0 := m0 (.cells #[.int .u8 0, .int .u8 0, .int .u8 0, .int .u16 0, .bool false, .bool false] 34)
 have n1 := m1 (.cells #[.int .u8 0, .int .u8 0, .int .u8 0, .int .u16 0, .bool false, .bool false] 34)
 have n2 := m2 (.cells #[.int .u8 0, .int .u8 0, .int .u8 0, .int .u16 0, .bool false, .bool false] 34)
 have n3 := m3 (.cells #[.int .u8 0, .int .u8 0, .int .u8 0, .int .u16 0, .bool false, .bool false] 34)
 have n4 := m4 (.cells #[.int .u8 0, .int .u8 0, .int .u8 0, .int .u16 0, .bool false, .bool false] 34)
 generalize w.alloc (.cells #[.int .u8 0, .int .u8 0, .int .u8 0, .int .u16 0, .bool false, .bool false] 34) = W at bk hB n0 n1 n2 n3 n4 ⊢
 clear m0 m1 m2 m3 m4 p0 p1 p2 p3 p4 k0 k1 k2 k3 k4
 have BK := ab.mk (ap bk)
 have HB := ab.mk (aj hB)
 clear bk hB
 go_still_tail 30, (by kernel_rfl)
 change wpList _ _ _ _ _ W.drew
 generalize W.drew = W2 at BK HB ⊢
 have zr0 : W2.cell? ⟨w.heap.size, 0, none⟩ = some (.int .u8 0) := (aa BK.out 0).trans rfl
 have zr1 : W2.cell? ⟨w.heap.size, 1, none⟩ = some (.int .u8 0) := (aa BK.out 1).trans rfl
 have zr2 : W2.cell? ⟨w.heap.size, 2, none⟩ = some (.int .u8 0) := (aa BK.out 2).trans rfl
 have zr3 : W2.cell? ⟨w.heap.size, 3, none⟩ = some (.int .u16 0) := (aa BK.out 3).trans rfl
 have zr4 : W2.cell? ⟨w.heap.size, 4, none⟩ = some (.bool false) := (aa BK.out 4).trans rfl
 have zr5 : W2.cell? ⟨w.heap.size, 5, none⟩ = some (.bool false) := (aa BK.out 5).trans rfl
 have fz := fun i => ae BK.out i
 go_wp2
 have q1 : ((((((W2.setCell ⟨w.heap.size, 0, none⟩ (.int .u8 (rd l 0))).setCell ⟨w.heap.size, 1, none⟩ (.int .u8 (rd l 1))).setCell ⟨w.heap.size, 2, none⟩ (.int .u8 (rd l 2))).setCell ⟨w.heap.size, 3, none⟩ (.int .u16 (IntKind.u16.wrap (IntKind.u16.wrap (IntKind.u16.wrap (Int.tmod (rd l 4) 2) * 256) + IntKind.u16.wrap (rd l 3))))).setCell ⟨w.heap.size, 4, none⟩ (.bool (Int.tdiv (rd l 4) 64 % 256 % 2 == 1))).setCell ⟨w.heap.size, 5, none⟩ (.bool (decide (128 ≤ rd l 4)))).heap[w.heap.size]? = some (.cells #[.int .u8 (rd l 0), .int .u8 (rd l 1), .int .u8 (rd l 2), .int .u16 (IntKind.u16.wrap (IntKind.u16.wrap (IntKind.u16.wrap (Int.tmod (rd l 4) 2) * 256) + IntKind.u16.wrap (rd l 3))), .bool (Int.tdiv (rd l 4) 64 % 256 % 2 == 1), .bool (decide (128 ≤ rd l 4))] 34 (0, 0)) := (an (an (an (an (an (an BK.out 0 _ rfl) 1 _ rfl) 2 _ rfl) 3 _ rfl) 4 _ rfl) 5 _ rfl)
 have q2 : Below w.heap.size w ((((((W2.setCell ⟨w.heap.size, 0, none⟩ (.int .u8 (rd l 0))).setCell ⟨w.heap.size, 1, none⟩ (.int .u8 (rd l 1))).setCell ⟨w.heap.size, 2, none⟩ (.int .u8 (rd l 2))).setCell ⟨w.heap.size, 3, none⟩ (.int .u16 (IntKind.u16.wrap (IntKind.u16.wrap (IntKind.u16.wrap (Int.tmod (rd l 4) 2) * 256) + IntKind.u16.wrap (rd l 3))))).setCell ⟨w.heap.size, 4, none⟩ (.bool (Int.tdiv (rd l 4) 64 % 256 % 2 == 1))).setCell ⟨w.heap.size, 5, none⟩ (.bool (decide (128 ≤ rd l 4)))) := (ag (ag (ag (ag (ag (ag HB.out (Nat.le_refl _)) (Nat.le_refl _)) (Nat.le_refl _)) (Nat.le_refl _)) (Nat.le_refl _)) (Nat.le_refl _))
 generalize ((((((W2.setCell ⟨w.heap.size, 0, none⟩ (.int .u8 (rd l 0))).setCell ⟨w.heap.size, 1, none⟩ (.int .u8 (rd l 1))).setCell ⟨w.heap.size, 2, none⟩ (.int .u8 (rd l 2))).setCell ⟨w.heap.size, 3, none⟩ (.int .u16 (IntKind.u16.wrap (IntKind.u16.wrap (IntKind.u16.wrap (Int.tmod (rd l 4) 2) * 256) + IntKind.u16.wrap (rd l 3))))).setCell ⟨w.heap.size, 4, none⟩ (.bool (Int.tdiv (rd l 4) 64 % 256 % 2 == 1))).setCell ⟨w.heap.size, 5, none⟩ (.bool (decide (128 ≤ rd l 4)))) = YY at q1 q2 ⊢
 have u0 : YY.cell? ⟨w.heap.size, 0, none⟩ = some (.int .u8 (rd l 0)) := (aa q1 0).trans rfl
 have u1 : YY.cell? ⟨w.heap.size, 1, none⟩ = some (.int .u8 (rd l 1)) := (aa q1 1).trans rfl
 have u2 : YY.cell? ⟨w.heap.size, 2, none⟩ = some (.int .u8 (rd l 2)) := (aa q1 2).trans rfl
 have u3 : YY.cell? ⟨w.heap.size, 3, none⟩ = some (.int .u16 (IntKind.u16.wrap (IntKind.u16.wrap (IntKind.u16.wrap (Int.tmod (rd l 4) 2) * 256) + IntKind.u16.wrap (rd l 3)))) := (aa q1 3).trans rfl
 have u4 : YY.cell? ⟨w.heap.size, 4, none⟩ = some (.bool (Int.tdiv (rd l 4) 64 % 256 % 2 == 1)) := (aa q1 4).trans rfl
 have u5 : YY.cell? ⟨w.heap.size, 5, none⟩ = some (.bool (decide (128 ≤ rd l 4))) := (aa q1 5).trans rfl
 exact bodyPost_ret (v := .tuple #[.agg #[.int .u8 (rd l 0), .int .u8 (rd l 1), .int .u8 (rd l 2), .int .u16 (IntKind.u16.wrap (IntKind.u16.wrap (IntKind.u16.wrap (Int.tmod (rd l 4) 2) * 256) + IntKind.u16.wrap (rd l 3))), .bool (Int.tdiv (rd l 4) 64 % 256 % 2 == 1), .bool (decide (128 ≤ rd l 4))], .bool true]) (by simp [results, Try.results76, go_sem, u0, u1, u2, u3, u4, u5]) rfl ⟨rfl, q2⟩
def aN.f (l : List Int) : Option (Int × Int × Int × Int × Bool × Bool × Bool) :=
 if l.length = 5 then (if rd l 0 > 63 then some (0, 0, 0, 0, false, false, false) else if rd l 1 > 63 then some (0, 0, 0, 0, false, false, false) else if rd l 2 > 31 then some (0, 0, 0, 0, false, false, false) else if Int.tmod (rd l 4) 64 > 1 then some (0, 0, 0, 0, false, false, false) else some (rd l 0, rd l 1, rd l 2, IntKind.u16.wrap (IntKind.u16.wrap (IntKind.u16.wrap (Int.tmod (rd l 4) 2) * 256) + IntKind.u16.wrap (rd l 3)), (Int.tdiv (rd l 4) 64 % 256 % 2 == 1), decide (128 ≤ rd l 4), true)) else none
theorem aN.calls (A0 : Option Addr) (c0 : Nat) (l0 : List Int) (r1 : Int) (r2 : Int) (r3 : Int) (r4 : Int) (r5 : Bool) (r6 : Bool) (r7 : Bool) (w : World) (hr0 : Kd.C (Kd.int .u8) w A0 l0.length l0) (hc0 : l0.length ≤ c0) (h : aN.f l0 = some (r1, r2, r3, r4, r5, r6, r7)) :
  Calls Try.prog 76 #[.slice A0 l0.length c0] w fun e w' => e = .returned (.tuple #[.agg #[.int .u8 r1, .int .u8 r2, .int .u8 r3, .int .u16 r4, .bool r5, .bool r6], .bool r7]) ∧ Below w.heap.size w w' := by
 unfold aN.f at h
 by_cases hl : l0.length = 5
 case neg => rw [if_neg hl] at h; exact absurd h (by simp)
 rw [if_pos hl] at h
 by_cases g0 : rd l0 0 > 63
 ·rw [if_pos g0] at h
  cases h
  exact one0 A0 c0 l0 hl w hr0 g0
 rw [if_neg g0] at h
 by_cases g1 : rd l0 1 > 63
 ·rw [if_pos g1] at h
  cases h
  exact one1 A0 c0 l0 hl w hr0 g0 g1
 rw [if_neg g1] at h
 by_cases g2 : rd l0 2 > 31
 ·rw [if_pos g2] at h
  cases h
  exact one2 A0 c0 l0 hl w hr0 g0 g1 g2
 rw [if_neg g2] at h
 by_cases g3 : Int.tmod (rd l0 4) 64 > 1
 ·rw [if_pos g3] at h
  cases h
  exact one3 A0 c0 l0 hl w hr0 g0 g1 g2 g3
 rw [if_neg g3] at h
 have h := Option.some.inj h
 simp only [Prod.mk.injEq] at h
 obtain ⟨rfl, rfl, rfl, rfl, rfl, rfl, rfl⟩ := h
 exact one4 A0 c0 l0 hl w hr0 g0 g1 g2 g3
theorem rof_ok (A : Option Addr) (c : Nat) (l : List Int) (hl : l.length = 10) (x0 x1 x2 x3 : Int) (x4 x5 : Bool) (y0 y1 y2 y3 : Int) (y4 y5 : Bool) (h0 : aN.f (l.take 5) = some (x0, x1, x2, x3, x4, x5, true)) (h1 : aN.f (l.drop 5) = some (y0, y1, y2, y3, y4, y5, true)) (w : World) (hr : Kd.C (Kd.int .u8) w A l.length l) (hc : l.length ≤ c) :
  Calls Try.prog 51 #[.slice A l.length c] w fun e' w' => e' = .returned (.tuple #[.agg #[.int .u8 x0, .int .u8 x1, .int .u8 x2, .int .u16 x3, .bool x4, .bool x5], .agg #[.int .u8 y0, .int .u8 y1, .int .u8 y2, .int .u16 y3, .bool y4, .bool y5], .int .i64 0]) ∧ Below w.heap.size w w' := by
 have H0 := ab.mk h0
 have H1 := ab.mk h1
 clear h0 h1
 have HT := ab.mk (Kd.C_take (m := 5) hr (by omega))
 have HD := ab.mk (Kd.C_drop (m := 5) hr (by omega) hc)
 rw [hl] at hr hc ⊢
 obtain ⟨ad, rfl, _⟩ := Kd.at_int hr 0 (by omega) (by omega)
 clear hr
 have hc5 : (5 : Int) ≤ c := by omega
 go_enter Try.func51, Try.ntmps51
 go_wp2_with fail
 have z0 := ah (aC w (.cells #[.int .u8 0, .int .u8 0, .int .u8 0, .int .u16 0, .bool false, .bool false] 34)) (.cells #[.int .u8 0, .int .u8 0, .int .u8 0, .int .u16 0, .bool false, .bool false] 34)
 have z1 := heap_alloc_new (w.alloc (.cells #[.int .u8 0, .int .u8 0, .int .u8 0, .int .u16 0, .bool false, .bool false] 34)) (.cells #[.int .u8 0, .int .u8 0, .int .u8 0, .int .u16 0, .bool false, .bool false] 34)
 rw [show (w.alloc (.cells #[.int .u8 0, .int .u8 0, .int .u8 0, .int .u16 0, .bool false, .bool false] 34)).heap.size = w.heap.size + 1 by simp] at z1
 have z2 := ac (ac (Below.refl w.heap.size w) (.cells #[.int .u8 0, .int .u8 0, .int .u8 0, .int .u16 0, .bool false, .bool false] 34)) (.cells #[.int .u8 0, .int .u8 0, .int .u8 0, .int .u16 0, .bool false, .bool false] 34)
 generalize (w.alloc (.cells #[.int .u8 0, .int .u8 0, .int .u8 0, .int .u16 0, .bool false, .bool false] 34)).alloc (.cells #[.int .u8 0, .int .u8 0, .int .u8 0, .int .u16 0, .bool false, .bool false] 34) = W0 at z0 z1 z2 ⊢
 have q := (aN.calls (some ad) c (l.take 5) _ _ _ _ _ _ _ W0 (Kd.C_below HT.out z2) (by simp [hl]; omega) H0.out)
 rw [show (l.take 5).length = 5 by simp [hl]] at q
 refine q.mono ?_
 clear q
 rintro e' w1 ⟨rfl, hb⟩
 have B0 := ab.mk (af z0 hb)
 have B1 := ab.mk (af z1 hb)
 have B2 := ab.mk (Below.trans z2 (hb.mono z2.size))
 clear z0 z1 z2 hb
 go_wp2_with fail
 have v0 := ah B0.out (.cells #[.int .u8 x0, .int .u8 x1, .int .u8 x2, .int .u16 x3, .bool x4, .bool x5] 34)
 have v1 := ah B1.out (.cells #[.int .u8 x0, .int .u8 x1, .int .u8 x2, .int .u16 x3, .bool x4, .bool x5] 34)
 have v2 := ac B2.out (.cells #[.int .u8 x0, .int .u8 x1, .int .u8 x2, .int .u16 x3, .bool x4, .bool x5] 34)
 have v3 := heap_alloc_new w1 (.cells #[.int .u8 x0, .int .u8 x1, .int .u8 x2, .int .u16 x3, .bool x4, .bool x5] 34)
 have g1 : w.heap.size + 1 < w1.heap.size := aZ B1.out
 generalize w1.alloc (.cells #[.int .u8 x0, .int .u8 x1, .int .u8 x2, .int .u16 x3, .bool x4, .bool x5] 34) = W1 at v0 v1 v2 v3 ⊢
 have HD2 := HD.out
 rw [if_neg (show ¬ c = 5 by omega)] at HD2
 have q := (aN.calls (some ⟨ad.block, ad.off + 5, none⟩) (c - 5) (l.drop 5) _ _ _ _ _ _ _ W1 (Kd.C_below HD2 v2) (by simp [hl]; omega) H1.out)
 rw [show (l.drop 5).length = 5 by simp [hl]] at q
 refine q.mono ?_
 clear q HD2
 rintro e' w2 ⟨rfl, hb⟩
 have C0 := ab.mk (af v0 hb)
 have C1 := ab.mk (af v1 hb)
 have C3 := ab.mk (af v3 hb)
 have C2 := ab.mk (Below.trans v2 (hb.mono v2.size))
 clear v0 v1 v2 v3 hb
 go_wp2_with fail
 have u0 := ah C0.out (.cells #[.int .u8 y0, .int .u8 y1, .int .u8 y2, .int .u16 y3, .bool y4, .bool y5] 34)
 have u1 := ah C1.out (.cells #[.int .u8 y0, .int .u8 y1, .int .u8 y2, .int .u16 y3, .bool y4, .bool y5] 34)
 have u2 := ac C2.out (.cells #[.int .u8 y0, .int .u8 y1, .int .u8 y2, .int .u16 y3, .bool y4, .bool y5] 34)
 have u3 := ah C3.out (.cells #[.int .u8 y0, .int .u8 y1, .int .u8 y2, .int .u16 y3, .bool y4, .bool y5] 34)
 have u4 := heap_alloc_new w2 (.cells #[.int .u8 y0, .int .u8 y1, .int .u8 y2, .int .u16 y3, .bool y4, .bool y5] 34)
 have g2 : w1.heap.size < w2.heap.size := aZ C3.out
 generalize w2.alloc (.cells #[.int .u8 y0, .int .u8 y1, .int .u8 y2, .int .u16 y3, .bool y4, .bool y5] 34) = W2 at u0 u1 u2 u3 u4 ⊢
 have a0 : W2.cell? ⟨w1.heap.size, 0, none⟩ = some (.int .u8 x0) := (aa u3 0).trans rfl
 have a1 : W2.cell? ⟨w1.heap.size, 1, none⟩ = some (.int .u8 x1) := (aa u3 1).trans rfl
 have a2 : W2.cell? ⟨w1.heap.size, 2, none⟩ = some (.int .u8 x2) := (aa u3 2).trans rfl
 have a3 : W2.cell? ⟨w1.heap.size, 3, none⟩ = some (.int .u16 x3) := (aa u3 3).trans rfl
 have a4 : W2.cell? ⟨w1.heap.size, 4, none⟩ = some (.bool x4) := (aa u3 4).trans rfl
 have a5 : W2.cell? ⟨w1.heap.size, 5, none⟩ = some (.bool x5) := (aa u3 5).trans rfl
 have b0 : W2.cell? ⟨w2.heap.size, 0, none⟩ = some (.int .u8 y0) := (aa u4 0).trans rfl
 have b1 : W2.cell? ⟨w2.heap.size, 1, none⟩ = some (.int .u8 y1) := (aa u4 1).trans rfl
 have b2 : W2.cell? ⟨w2.heap.size, 2, none⟩ = some (.int .u8 y2) := (aa u4 2).trans rfl
 have b3 : W2.cell? ⟨w2.heap.size, 3, none⟩ = some (.int .u16 y3) := (aa u4 3).trans rfl
 have b4 : W2.cell? ⟨w2.heap.size, 4, none⟩ = some (.bool y4) := (aa u4 4).trans rfl
 have b5 : W2.cell? ⟨w2.heap.size, 5, none⟩ = some (.bool y5) := (aa u4 5).trans rfl
 have p0 : W2.cell? ⟨w.heap.size, 0, none⟩ = some (.int .u8 0) := (aa u0 0).trans rfl
 have p1 : W2.cell? ⟨w.heap.size, 1, none⟩ = some (.int .u8 0) := (aa u0 1).trans rfl
 have p2 : W2.cell? ⟨w.heap.size, 2, none⟩ = some (.int .u8 0) := (aa u0 2).trans rfl
 have p3 : W2.cell? ⟨w.heap.size, 3, none⟩ = some (.int .u16 0) := (aa u0 3).trans rfl
 have p4 : W2.cell? ⟨w.heap.size, 4, none⟩ = some (.bool false) := (aa u0 4).trans rfl
 have p5 : W2.cell? ⟨w.heap.size, 5, none⟩ = some (.bool false) := (aa u0 5).trans rfl
 have q0 : W2.cell? ⟨w.heap.size + 1, 0, none⟩ = some (.int .u8 0) := (aa u1 0).trans rfl
 have q1 : W2.cell? ⟨w.heap.size + 1, 1, none⟩ = some (.int .u8 0) := (aa u1 1).trans rfl
 have q2 : W2.cell? ⟨w.heap.size + 1, 2, none⟩ = some (.int .u8 0) := (aa u1 2).trans rfl
 have q3 : W2.cell? ⟨w.heap.size + 1, 3, none⟩ = some (.int .u16 0) := (aa u1 3).trans rfl
 have q4 : W2.cell? ⟨w.heap.size + 1, 4, none⟩ = some (.bool false) := (aa u1 4).trans rfl
 have q5 : W2.cell? ⟨w.heap.size + 1, 5, none⟩ = some (.bool false) := (aa u1 5).trans rfl
 have f0 := fun i => ae u0 i
 have f1 := fun i => ae u1 i
 go_region
 go_wp2
 have m1 : (((((((((((((W2.setCell ⟨w.heap.size, 0, none⟩ (.int .u8 x0)).setCell ⟨w.heap.size, 1, none⟩ (.int .u8 x1)).setCell ⟨w.heap.size, 2, none⟩ (.int .u8 x2)).setCell ⟨w.heap.size, 3, none⟩ (.int .u16 x3)).setCell ⟨w.heap.size, 4, none⟩ (.bool x4)).setCell ⟨w.heap.size, 5, none⟩ (.bool x5)).setCell ⟨w.heap.size + 1, 0, none⟩ (.int .u8 y0)).setCell ⟨w.heap.size + 1, 1, none⟩ (.int .u8 y1)).setCell ⟨w.heap.size + 1, 2, none⟩ (.int .u8 y2)).setCell ⟨w.heap.size + 1, 3, none⟩ (.int .u16 y3)).setCell ⟨w.heap.size + 1, 4, none⟩ (.bool y4)).setCell ⟨w.heap.size + 1, 5, none⟩ (.bool y5)).drew).heap[w.heap.size]? = some (.cells #[.int .u8 x0, .int .u8 x1, .int .u8 x2, .int .u16 x3, .bool x4, .bool x5] 34 (0, 0)) := (ap (al (al (al (al (al (al (an (an (an (an (an (an u0 0 _ rfl) 1 _ rfl) 2 _ rfl) 3 _ rfl) 4 _ rfl) 5 _ rfl) (by simp) _) (by simp) _) (by simp) _) (by simp) _) (by simp) _) (by simp) _))
 have m2 : (((((((((((((W2.setCell ⟨w.heap.size, 0, none⟩ (.int .u8 x0)).setCell ⟨w.heap.size, 1, none⟩ (.int .u8 x1)).setCell ⟨w.heap.size, 2, none⟩ (.int .u8 x2)).setCell ⟨w.heap.size, 3, none⟩ (.int .u16 x3)).setCell ⟨w.heap.size, 4, none⟩ (.bool x4)).setCell ⟨w.heap.size, 5, none⟩ (.bool x5)).setCell ⟨w.heap.size + 1, 0, none⟩ (.int .u8 y0)).setCell ⟨w.heap.size + 1, 1, none⟩ (.int .u8 y1)).setCell ⟨w.heap.size + 1, 2, none⟩ (.int .u8 y2)).setCell ⟨w.heap.size + 1, 3, none⟩ (.int .u16 y3)).setCell ⟨w.heap.size + 1, 4, none⟩ (.bool y4)).setCell ⟨w.heap.size + 1, 5, none⟩ (.bool y5)).drew).heap[w.heap.size + 1]? = some (.cells #[.int .u8 y0, .int .u8 y1, .int .u8 y2, .int .u16 y3, .bool y4, .bool y5] 34 (0, 0)) := (ap (an (an (an (an (an (an (al (al (al (al (al (al u1 (by simp) _) (by simp) _) (by simp) _) (by simp) _) (by simp) _) (by simp) _) 0 _ rfl) 1 _ rfl) 2 _ rfl) 3 _ rfl) 4 _ rfl) 5 _ rfl))
 have m3 : Below w.heap.size w (((((((((((((W2.setCell ⟨w.heap.size, 0, none⟩ (.int .u8 x0)).setCell ⟨w.heap.size, 1, none⟩ (.int .u8 x1)).setCell ⟨w.heap.size, 2, none⟩ (.int .u8 x2)).setCell ⟨w.heap.size, 3, none⟩ (.int .u16 x3)).setCell ⟨w.heap.size, 4, none⟩ (.bool x4)).setCell ⟨w.heap.size, 5, none⟩ (.bool x5)).setCell ⟨w.heap.size + 1, 0, none⟩ (.int .u8 y0)).setCell ⟨w.heap.size + 1, 1, none⟩ (.int .u8 y1)).setCell ⟨w.heap.size + 1, 2, none⟩ (.int .u8 y2)).setCell ⟨w.heap.size + 1, 3, none⟩ (.int .u16 y3)).setCell ⟨w.heap.size + 1, 4, none⟩ (.bool y4)).setCell ⟨w.heap.size + 1, 5, none⟩ (.bool y5)).drew) := (aj (ag (ag (ag (ag (ag (ag (ag (ag (ag (ag (ag (ag u2 (Nat.le_refl _)) (Nat.le_refl _)) (Nat.le_refl _)) (Nat.le_refl _)) (Nat.le_refl _)) (Nat.le_refl _)) (Nat.le_succ _)) (Nat.le_succ _)) (Nat.le_succ _)) (Nat.le_succ _)) (Nat.le_succ _)) (Nat.le_succ _)))
 generalize (((((((((((((W2.setCell ⟨w.heap.size, 0, none⟩ (.int .u8 x0)).setCell ⟨w.heap.size, 1, none⟩ (.int .u8 x1)).setCell ⟨w.heap.size, 2, none⟩ (.int .u8 x2)).setCell ⟨w.heap.size, 3, none⟩ (.int .u16 x3)).setCell ⟨w.heap.size, 4, none⟩ (.bool x4)).setCell ⟨w.heap.size, 5, none⟩ (.bool x5)).setCell ⟨w.heap.size + 1, 0, none⟩ (.int .u8 y0)).setCell ⟨w.heap.size + 1, 1, none⟩ (.int .u8 y1)).setCell ⟨w.heap.size + 1, 2, none⟩ (.int .u8 y2)).setCell ⟨w.heap.size + 1, 3, none⟩ (.int .u16 y3)).setCell ⟨w.heap.size + 1, 4, none⟩ (.bool y4)).setCell ⟨w.heap.size + 1, 5, none⟩ (.bool y5)).drew) = YY at m1 m2 m3 ⊢
 have U0 : YY.cell? ⟨w.heap.size, 0, none⟩ = some (.int .u8 x0) := (aa m1 0).trans rfl
 have T0 : YY.cell? ⟨w.heap.size + 1, 0, none⟩ = some (.int .u8 y0) := (aa m2 0).trans rfl
 have U1 : YY.cell? ⟨w.heap.size, 1, none⟩ = some (.int .u8 x1) := (aa m1 1).trans rfl
 have T1 : YY.cell? ⟨w.heap.size + 1, 1, none⟩ = some (.int .u8 y1) := (aa m2 1).trans rfl
 have U2 : YY.cell? ⟨w.heap.size, 2, none⟩ = some (.int .u8 x2) := (aa m1 2).trans rfl
 have T2 : YY.cell? ⟨w.heap.size + 1, 2, none⟩ = some (.int .u8 y2) := (aa m2 2).trans rfl
 have U3 : YY.cell? ⟨w.heap.size, 3, none⟩ = some (.int .u16 x3) := (aa m1 3).trans rfl
 have T3 : YY.cell? ⟨w.heap.size + 1, 3, none⟩ = some (.int .u16 y3) := (aa m2 3).trans rfl
 have U4 : YY.cell? ⟨w.heap.size, 4, none⟩ = some (.bool x4) := (aa m1 4).trans rfl
 have T4 : YY.cell? ⟨w.heap.size + 1, 4, none⟩ = some (.bool y4) := (aa m2 4).trans rfl
 have U5 : YY.cell? ⟨w.heap.size, 5, none⟩ = some (.bool x5) := (aa m1 5).trans rfl
 have T5 : YY.cell? ⟨w.heap.size + 1, 5, none⟩ = some (.bool y5) := (aa m2 5).trans rfl
 exact bodyPost_ret (v := .tuple #[.agg #[.int .u8 x0, .int .u8 x1, .int .u8 x2, .int .u16 x3, .bool x4, .bool x5], .agg #[.int .u8 y0, .int .u8 y1, .int .u8 y2, .int .u16 y3, .bool y4, .bool y5], .int .i64 0]) (by simp [results, Try.results51, go_sem, U0, T0, U1, T1, U2, T2, U3, T3, U4, T4, U5, T5]) rfl ⟨rfl, m3⟩
theorem rof_two (A : Option Addr) (c : Nat) (l : List Int) (hl : l.length = 10) (x0 x1 x2 x3 : Int) (x4 x5 : Bool) (y0 y1 y2 y3 : Int) (y4 y5 : Bool) (h0 : aN.f (l.take 5) = some (x0, x1, x2, x3, x4, x5, true)) (h1 : aN.f (l.drop 5) = some (y0, y1, y2, y3, y4, y5, false)) (w : World) (hr : Kd.C (Kd.int .u8) w A l.length l) (hc : l.length ≤ c) :
  Calls Try.prog 51 #[.slice A l.length c] w fun e' w' => e' = .returned (.tuple #[.agg #[.int .u8 0, .int .u8 0, .int .u8 0, .int .u16 0, .bool false, .bool false], .agg #[.int .u8 0, .int .u8 0, .int .u8 0, .int .u16 0, .bool false, .bool false], .int .i64 6]) ∧ Below w.heap.size w w' := by
 have H0 := ab.mk h0
 have H1 := ab.mk h1
 clear h0 h1
 have HT := ab.mk (Kd.C_take (m := 5) hr (by omega))
 have HD := ab.mk (Kd.C_drop (m := 5) hr (by omega) hc)
 rw [hl] at hr hc ⊢
 obtain ⟨ad, rfl, _⟩ := Kd.at_int hr 0 (by omega) (by omega)
 clear hr
 have hc5 : (5 : Int) ≤ c := by omega
 go_enter Try.func51, Try.ntmps51
 go_wp2_with fail
 have z0 := ah (aC w (.cells #[.int .u8 0, .int .u8 0, .int .u8 0, .int .u16 0, .bool false, .bool false] 34)) (.cells #[.int .u8 0, .int .u8 0, .int .u8 0, .int .u16 0, .bool false, .bool false] 34)
 have z1 := heap_alloc_new (w.alloc (.cells #[.int .u8 0, .int .u8 0, .int .u8 0, .int .u16 0, .bool false, .bool false] 34)) (.cells #[.int .u8 0, .int .u8 0, .int .u8 0, .int .u16 0, .bool false, .bool false] 34)
 rw [show (w.alloc (.cells #[.int .u8 0, .int .u8 0, .int .u8 0, .int .u16 0, .bool false, .bool false] 34)).heap.size = w.heap.size + 1 by simp] at z1
 have z2 := ac (ac (Below.refl w.heap.size w) (.cells #[.int .u8 0, .int .u8 0, .int .u8 0, .int .u16 0, .bool false, .bool false] 34)) (.cells #[.int .u8 0, .int .u8 0, .int .u8 0, .int .u16 0, .bool false, .bool false] 34)
 generalize (w.alloc (.cells #[.int .u8 0, .int .u8 0, .int .u8 0, .int .u16 0, .bool false, .bool false] 34)).alloc (.cells #[.int .u8 0, .int .u8 0, .int .u8 0, .int .u16 0, .bool false, .bool false] 34) = W0 at z0 z1 z2 ⊢
 have q := (aN.calls (some ad) c (l.take 5) _ _ _ _ _ _ _ W0 (Kd.C_below HT.out z2) (by simp [hl]; omega) H0.out)
 rw [show (l.take 5).length = 5 by simp [hl]] at q
 refine q.mono ?_
 clear q
 rintro e' w1 ⟨rfl, hb⟩
 have B0 := ab.mk (af z0 hb)
 have B1 := ab.mk (af z1 hb)
 have B2 := ab.mk (Below.trans z2 (hb.mono z2.size))
 clear z0 z1 z2 hb
 go_wp2_with fail
 have v0 := ah B0.out (.cells #[.int .u8 x0, .int .u8 x1, .int .u8 x2, .int .u16 x3, .bool x4, .bool x5] 34)
 have v1 := ah B1.out (.cells #[.int .u8 x0, .int .u8 x1, .int .u8 x2, .int .u16 x3, .bool x4, .bool x5] 34)
 have v2 := ac B2.out (.cells #[.int .u8 x0, .int .u8 x1, .int .u8 x2, .int .u16 x3, .bool x4, .bool x5] 34)
 have v3 := heap_alloc_new w1 (.cells #[.int .u8 x0, .int .u8 x1, .int .u8 x2, .int .u16 x3, .bool x4, .bool x5] 34)
 have g1 : w.heap.size + 1 < w1.heap.size := aZ B1.out
 generalize w1.alloc (.cells #[.int .u8 x0, .int .u8 x1, .int .u8 x2, .int .u16 x3, .bool x4, .bool x5] 34) = W1 at v0 v1 v2 v3 ⊢
 have HD2 := HD.out
 rw [if_neg (show ¬ c = 5 by omega)] at HD2
 have q := (aN.calls (some ⟨ad.block, ad.off + 5, none⟩) (c - 5) (l.drop 5) _ _ _ _ _ _ _ W1 (Kd.C_below HD2 v2) (by simp [hl]; omega) H1.out)
 rw [show (l.drop 5).length = 5 by simp [hl]] at q
 refine q.mono ?_
 clear q HD2
 rintro e' w2 ⟨rfl, hb⟩
 have C0 := ab.mk (af v0 hb)
 have C1 := ab.mk (af v1 hb)
 have C3 := ab.mk (af v3 hb)
 have C2 := ab.mk (Below.trans v2 (hb.mono v2.size))
 clear v0 v1 v2 v3 hb
 have u0 := ah C0.out (.cells #[.int .u8 y0, .int .u8 y1, .int .u8 y2, .int .u16 y3, .bool y4, .bool y5] 34)
 have u1 := ah C1.out (.cells #[.int .u8 y0, .int .u8 y1, .int .u8 y2, .int .u16 y3, .bool y4, .bool y5] 34)
 have u2 := ac C2.out (.cells #[.int .u8 y0, .int .u8 y1, .int .u8 y2, .int .u16 y3, .bool y4, .bool y5] 34)
 have u3 := ah C3.out (.cells #[.int .u8 y0, .int .u8 y1, .int .u8 y2, .int .u16 y3, .bool y4, .bool y5] 34)
 have u4 := heap_alloc_new w2 (.cells #[.int .u8 y0, .int .u8 y1, .int .u8 y2, .int .u16 y3, .bool y4, .bool y5] 34)
 have g2 : w1.heap.size < w2.heap.size := aZ C3.out
 have p0 : (w2.alloc (.cells #[.int .u8 y0, .int .u8 y1, .int .u8 y2, .int .u16 y3, .bool y4, .bool y5] 34)).cell? ⟨w.heap.size, 0, none⟩ = some (.int .u8 0) := (aa u0 0).trans rfl
 have p1 : (w2.alloc (.cells #[.int .u8 y0, .int .u8 y1, .int .u8 y2, .int .u16 y3, .bool y4, .bool y5] 34)).cell? ⟨w.heap.size, 1, none⟩ = some (.int .u8 0) := (aa u0 1).trans rfl
 have p2 : (w2.alloc (.cells #[.int .u8 y0, .int .u8 y1, .int .u8 y2, .int .u16 y3, .bool y4, .bool y5] 34)).cell? ⟨w.heap.size, 2, none⟩ = some (.int .u8 0) := (aa u0 2).trans rfl
 have p3 : (w2.alloc (.cells #[.int .u8 y0, .int .u8 y1, .int .u8 y2, .int .u16 y3, .bool y4, .bool y5] 34)).cell? ⟨w.heap.size, 3, none⟩ = some (.int .u16 0) := (aa u0 3).trans rfl
 have p4 : (w2.alloc (.cells #[.int .u8 y0, .int .u8 y1, .int .u8 y2, .int .u16 y3, .bool y4, .bool y5] 34)).cell? ⟨w.heap.size, 4, none⟩ = some (.bool false) := (aa u0 4).trans rfl
 have p5 : (w2.alloc (.cells #[.int .u8 y0, .int .u8 y1, .int .u8 y2, .int .u16 y3, .bool y4, .bool y5] 34)).cell? ⟨w.heap.size, 5, none⟩ = some (.bool false) := (aa u0 5).trans rfl
 have q0 : (w2.alloc (.cells #[.int .u8 y0, .int .u8 y1, .int .u8 y2, .int .u16 y3, .bool y4, .bool y5] 34)).cell? ⟨w.heap.size + 1, 0, none⟩ = some (.int .u8 0) := (aa u1 0).trans rfl
 have q1 : (w2.alloc (.cells #[.int .u8 y0, .int .u8 y1, .int .u8 y2, .int .u16 y3, .bool y4, .bool y5] 34)).cell? ⟨w.heap.size + 1, 1, none⟩ = some (.int .u8 0) := (aa u1 1).trans rfl
 have q2 : (w2.alloc (.cells #[.int .u8 y0, .int .u8 y1, .int .u8 y2, .int .u16 y3, .bool y4, .bool y5] 34)).cell? ⟨w.heap.size + 1, 2, none⟩ = some (.int .u8 0) := (aa u1 2).trans rfl
 have q3 : (w2.alloc (.cells #[.int .u8 y0, .int .u8 y1, .int .u8 y2, .int .u16 y3, .bool y4, .bool y5] 34)).cell? ⟨w.heap.size + 1, 3, none⟩ = some (.int .u16 0) := (aa u1 3).trans rfl
 have q4 : (w2.alloc (.cells #[.int .u8 y0, .int .u8 y1, .int .u8 y2, .int .u16 y3, .bool y4, .bool y5] 34)).cell? ⟨w.heap.size + 1, 4, none⟩ = some (.bool false) := (aa u1 4).trans rfl
 have q5 : (w2.alloc (.cells #[.int .u8 y0, .int .u8 y1, .int .u8 y2, .int .u16 y3, .bool y4, .bool y5] 34)).cell? ⟨w.heap.size + 1, 5, none⟩ = some (.bool false) := (aa u1 5).trans rfl
 have f0 := fun i => ae u0 i
 have f1 := fun i => ae u1 i
 clear u3 u4
 go_wp2
 have m1 : (((((((((((((w2.alloc (.cells #[.int .u8 y0, .int .u8 y1, .int .u8 y2, .int .u16 y3, .bool y4, .bool y5] 34)).setCell ⟨w.heap.size, 0, none⟩ (.int .u8 0)).setCell ⟨w.heap.size, 1, none⟩ (.int .u8 0)).setCell ⟨w.heap.size, 2, none⟩ (.int .u8 0)).setCell ⟨w.heap.size, 3, none⟩ (.int .u16 0)).setCell ⟨w.heap.size, 4, none⟩ (.bool false)).setCell ⟨w.heap.size, 5, none⟩ (.bool false)).setCell ⟨w.heap.size + 1, 0, none⟩ (.int .u8 0)).setCell ⟨w.heap.size + 1, 1, none⟩ (.int .u8 0)).setCell ⟨w.heap.size + 1, 2, none⟩ (.int .u8 0)).setCell ⟨w.heap.size + 1, 3, none⟩ (.int .u16 0)).setCell ⟨w.heap.size + 1, 4, none⟩ (.bool false)).setCell ⟨w.heap.size + 1, 5, none⟩ (.bool false)).heap[w.heap.size]? = some (.cells #[.int .u8 0, .int .u8 0, .int .u8 0, .int .u16 0, .bool false, .bool false] 34 (0, 0)) := (id (al (al (al (al (al (al (an (an (an (an (an (an u0 0 _ rfl) 1 _ rfl) 2 _ rfl) 3 _ rfl) 4 _ rfl) 5 _ rfl) (by simp) _) (by simp) _) (by simp) _) (by simp) _) (by simp) _) (by simp) _))
 have m2 : (((((((((((((w2.alloc (.cells #[.int .u8 y0, .int .u8 y1, .int .u8 y2, .int .u16 y3, .bool y4, .bool y5] 34)).setCell ⟨w.heap.size, 0, none⟩ (.int .u8 0)).setCell ⟨w.heap.size, 1, none⟩ (.int .u8 0)).setCell ⟨w.heap.size, 2, none⟩ (.int .u8 0)).setCell ⟨w.heap.size, 3, none⟩ (.int .u16 0)).setCell ⟨w.heap.size, 4, none⟩ (.bool false)).setCell ⟨w.heap.size, 5, none⟩ (.bool false)).setCell ⟨w.heap.size + 1, 0, none⟩ (.int .u8 0)).setCell ⟨w.heap.size + 1, 1, none⟩ (.int .u8 0)).setCell ⟨w.heap.size + 1, 2, none⟩ (.int .u8 0)).setCell ⟨w.heap.size + 1, 3, none⟩ (.int .u16 0)).setCell ⟨w.heap.size + 1, 4, none⟩ (.bool false)).setCell ⟨w.heap.size + 1, 5, none⟩ (.bool false)).heap[w.heap.size + 1]? = some (.cells #[.int .u8 0, .int .u8 0, .int .u8 0, .int .u16 0, .bool false, .bool false] 34 (0, 0)) := (id (an (an (an (an (an (an (al (al (al (al (al (al u1 (by simp) _) (by simp) _) (by simp) _) (by simp) _) (by simp) _) (by simp) _) 0 _ rfl) 1 _ rfl) 2 _ rfl) 3 _ rfl) 4 _ rfl) 5 _ rfl))
 have m3 : Below w.heap.size w (((((((((((((w2.alloc (.cells #[.int .u8 y0, .int .u8 y1, .int .u8 y2, .int .u16 y3, .bool y4, .bool y5] 34)).setCell ⟨w.heap.size, 0, none⟩ (.int .u8 0)).setCell ⟨w.heap.size, 1, none⟩ (.int .u8 0)).setCell ⟨w.heap.size, 2, none⟩ (.int .u8 0)).setCell ⟨w.heap.size, 3, none⟩ (.int .u16 0)).setCell ⟨w.heap.size, 4, none⟩ (.bool false)).setCell ⟨w.heap.size, 5, none⟩ (.bool false)).setCell ⟨w.heap.size + 1, 0, none⟩ (.int .u8 0)).setCell ⟨w.heap.size + 1, 1, none⟩ (.int .u8 0)).setCell ⟨w.heap.size + 1, 2, none⟩ (.int .u8 0)).setCell ⟨w.heap.size + 1, 3, none⟩ (.int .u16 0)).setCell ⟨w.heap.size + 1, 4, none⟩ (.bool false)).setCell ⟨w.heap.size + 1, 5, none⟩ (.bool false)) := (id (ag (ag (ag (ag (ag (ag (ag (ag (ag (ag (ag (ag u2 (Nat.le_refl _)) (Nat.le_refl _)) (Nat.le_refl _)) (Nat.le_refl _)) (Nat.le_refl _)) (Nat.le_refl _)) (Nat.le_succ _)) (Nat.le_succ _)) (Nat.le_succ _)) (Nat.le_succ _)) (Nat.le_succ _)) (Nat.le_succ _)))
 generalize (((((((((((((w2.alloc (.cells #[.int .u8 y0, .int .u8 y1, .int .u8 y2, .int .u16 y3, .bool y4, .bool y5] 34)).setCell ⟨w.heap.size, 0, none⟩ (.int .u8 0)).setCell ⟨w.heap.size, 1, none⟩ (.int .u8 0)).setCell ⟨w.heap.size, 2, none⟩ (.int .u8 0)).setCell ⟨w.heap.size, 3, none⟩ (.int .u16 0)).setCell ⟨w.heap.size, 4, none⟩ (.bool false)).setCell ⟨w.heap.size, 5, none⟩ (.bool false)).setCell ⟨w.heap.size + 1, 0, none⟩ (.int .u8 0)).setCell ⟨w.heap.size + 1, 1, none⟩ (.int .u8 0)).setCell ⟨w.heap.size + 1, 2, none⟩ (.int .u8 0)).setCell ⟨w.heap.size + 1, 3, none⟩ (.int .u16 0)).setCell ⟨w.heap.size + 1, 4, none⟩ (.bool false)).setCell ⟨w.heap.size + 1, 5, none⟩ (.bool false)) = YY at m1 m2 m3 ⊢
 have U0 : YY.cell? ⟨w.heap.size, 0, none⟩ = some (.int .u8 0) := (aa m1 0).trans rfl
 have T0 : YY.cell? ⟨w.heap.size + 1, 0, none⟩ = some (.int .u8 0) := (aa m2 0).trans rfl
 have U1 : YY.cell? ⟨w.heap.size, 1, none⟩ = some (.int .u8 0) := (aa m1 1).trans rfl
 have T1 : YY.cell? ⟨w.heap.size + 1, 1, none⟩ = some (.int .u8 0) := (aa m2 1).trans rfl
 have U2 : YY.cell? ⟨w.heap.size, 2, none⟩ = some (.int .u8 0) := (aa m1 2).trans rfl
 have T2 : YY.cell? ⟨w.heap.size + 1, 2, none⟩ = some (.int .u8 0) := (aa m2 2).trans rfl
 have U3 : YY.cell? ⟨w.heap.size, 3, none⟩ = some (.int .u16 0) := (aa m1 3).trans rfl
 have T3 : YY.cell? ⟨w.heap.size + 1, 3, none⟩ = some (.int .u16 0) := (aa m2 3).trans rfl
 have U4 : YY.cell? ⟨w.heap.size, 4, none⟩ = some (.bool false) := (aa m1 4).trans rfl
 have T4 : YY.cell? ⟨w.heap.size + 1, 4, none⟩ = some (.bool false) := (aa m2 4).trans rfl
 have U5 : YY.cell? ⟨w.heap.size, 5, none⟩ = some (.bool false) := (aa m1 5).trans rfl
 have T5 : YY.cell? ⟨w.heap.size + 1, 5, none⟩ = some (.bool false) := (aa m2 5).trans rfl
 exact bodyPost_ret (v := .tuple #[.agg #[.int .u8 0, .int .u8 0, .int .u8 0, .int .u16 0, .bool false, .bool false], .agg #[.int .u8 0, .int .u8 0, .int .u8 0, .int .u16 0, .bool false, .bool false], .int .i64 6]) (by simp [results, Try.results51, go_sem, U0, T0, U1, T1, U2, T2, U3, T3, U4, T4, U5, T5]) rfl ⟨rfl, m3⟩
theorem rof_one (A : Option Addr) (c : Nat) (l : List Int) (hl : l.length = 10) (x0 x1 x2 x3 : Int) (x4 x5 : Bool) (y0 y1 y2 y3 : Int) (y4 y5 : Bool) (b : Bool) (h0 : aN.f (l.take 5) = some (x0, x1, x2, x3, x4, x5, false)) (h1 : aN.f (l.drop 5) = some (y0, y1, y2, y3, y4, y5, b)) (w : World) (hr : Kd.C (Kd.int .u8) w A l.length l) (hc : l.length ≤ c) :
  Calls Try.prog 51 #[.slice A l.length c] w fun e' w' => e' = .returned (.tuple #[.agg #[.int .u8 0, .int .u8 0, .int .u8 0, .int .u16 0, .bool false, .bool false], .agg #[.int .u8 0, .int .u8 0, .int .u8 0, .int .u16 0, .bool false, .bool false], .int .i64 6]) ∧ Below w.heap.size w w' := by
 have H0 := ab.mk h0
 have H1 := ab.mk h1
 clear h0 h1
 have HT := ab.mk (Kd.C_take (m := 5) hr (by omega))
 have HD := ab.mk (Kd.C_drop (m := 5) hr (by omega) hc)
 rw [hl] at hr hc ⊢
 obtain ⟨ad, rfl, _⟩ := Kd.at_int hr 0 (by omega) (by omega)
 clear hr
 have hc5 : (5 : Int) ≤ c := by omega
 go_enter Try.func51, Try.ntmps51
 go_wp2_with fail
 have z0 := ah (aC w (.cells #[.int .u8 0, .int .u8 0, .int .u8 0, .int .u16 0, .bool false, .bool false] 34)) (.cells #[.int .u8 0, .int .u8 0, .int .u8 0, .int .u16 0, .bool false, .bool false] 34)
 have z1 := heap_alloc_new (w.alloc (.cells #[.int .u8 0, .int .u8 0, .int .u8 0, .int .u16 0, .bool false, .bool false] 34)) (.cells #[.int .u8 0, .int .u8 0, .int .u8 0, .int .u16 0, .bool false, .bool false] 34)
 rw [show (w.alloc (.cells #[.int .u8 0, .int .u8 0, .int .u8 0, .int .u16 0, .bool false, .bool false] 34)).heap.size = w.heap.size + 1 by simp] at z1
 have z2 := ac (ac (Below.refl w.heap.size w) (.cells #[.int .u8 0, .int .u8 0, .int .u8 0, .int .u16 0, .bool false, .bool false] 34)) (.cells #[.int .u8 0, .int .u8 0, .int .u8 0, .int .u16 0, .bool false, .bool false] 34)
 generalize (w.alloc (.cells #[.int .u8 0, .int .u8 0, .int .u8 0, .int .u16 0, .bool false, .bool false] 34)).alloc (.cells #[.int .u8 0, .int .u8 0, .int .u8 0, .int .u16 0, .bool false, .bool false] 34) = W0 at z0 z1 z2 ⊢
 have q := (aN.calls (some ad) c (l.take 5) _ _ _ _ _ _ _ W0 (Kd.C_below HT.out z2) (by simp [hl]; omega) H0.out)
 rw [show (l.take 5).length = 5 by simp [hl]] at q
 refine q.mono ?_
 clear q
 rintro e' w1 ⟨rfl, hb⟩
 have B0 := ab.mk (af z0 hb)
 have B1 := ab.mk (af z1 hb)
 have B2 := ab.mk (Below.trans z2 (hb.mono z2.size))
 clear z0 z1 z2 hb
 go_wp2_with fail
 have v0 := ah B0.out (.cells #[.int .u8 x0, .int .u8 x1, .int .u8 x2, .int .u16 x3, .bool x4, .bool x5] 34)
 have v1 := ah B1.out (.cells #[.int .u8 x0, .int .u8 x1, .int .u8 x2, .int .u16 x3, .bool x4, .bool x5] 34)
 have v2 := ac B2.out (.cells #[.int .u8 x0, .int .u8 x1, .int .u8 x2, .int .u16 x3, .bool x4, .bool x5] 34)
 have v3 := heap_alloc_new w1 (.cells #[.int .u8 x0, .int .u8 x1, .int .u8 x2, .int .u16 x3, .bool x4, .bool x5] 34)
 have g1 : w.heap.size + 1 < w1.heap.size := aZ B1.out
 generalize w1.alloc (.cells #[.int .u8 x0, .int .u8 x1, .int .u8 x2, .int .u16 x3, .bool x4, .bool x5] 34) = W1 at v0 v1 v2 v3 ⊢
 have HD2 := HD.out
 rw [if_neg (show ¬ c = 5 by omega)] at HD2
 have q := (aN.calls (some ⟨ad.block, ad.off + 5, none⟩) (c - 5) (l.drop 5) _ _ _ _ _ _ _ W1 (Kd.C_below HD2 v2) (by simp [hl]; omega) H1.out)
 rw [show (l.drop 5).length = 5 by simp [hl]] at q
 refine q.mono ?_
 clear q HD2
 rintro e' w2 ⟨rfl, hb⟩
 have C0 := ab.mk (af v0 hb)
 have C1 := ab.mk (af v1 hb)
 have C3 := ab.mk (af v3 hb)
 have C2 := ab.mk (Below.trans v2 (hb.mono v2.size))
 clear v0 v1 v2 v3 hb
 have u0 := ah C0.out (.cells #[.int .u8 y0, .int .u8 y1, .int .u8 y2, .int .u16 y3, .bool y4, .bool y5] 34)
 have u1 := ah C1.out (.cells #[.int .u8 y0, .int .u8 y1, .int .u8 y2, .int .u16 y3, .bool y4, .bool y5] 34)
 have u2 := ac C2.out (.cells #[.int .u8 y0, .int .u8 y1, .int .u8 y2, .int .u16 y3, .bool y4, .bool y5] 34)
 have u3 := ah C3.out (.cells #[.int .u8 y0, .int .u8 y1, .int .u8 y2, .int .u16 y3, .bool y4, .bool y5] 34)
 have u4 := heap_alloc_new w2 (.cells #[.int .u8 y0, .int .u8 y1, .int .u8 y2, .int .u16 y3, .bool y4, .bool y5] 34)
 have g2 : w1.heap.size < w2.heap.size := aZ C3.out
 have p0 : (w2.alloc (.cells #[.int .u8 y0, .int .u8 y1, .int .u8 y2, .int .u16 y3, .bool y4, .bool y5] 34)).cell? ⟨w.heap.size, 0, none⟩ = some (.int .u8 0) := (aa u0 0).trans rfl
 have p1 : (w2.alloc (.cells #[.int .u8 y0, .int .u8 y1, .int .u8 y2, .int .u16 y3, .bool y4, .bool y5] 34)).cell? ⟨w.heap.size, 1, none⟩ = some (.int .u8 0) := (aa u0 1).trans rfl
 have p2 : (w2.alloc (.cells #[.int .u8 y0, .int .u8 y1, .int .u8 y2, .int .u16 y3, .bool y4, .bool y5] 34)).cell? ⟨w.heap.size, 2, none⟩ = some (.int .u8 0) := (aa u0 2).trans rfl
 have p3 : (w2.alloc (.cells #[.int .u8 y0, .int .u8 y1, .int .u8 y2, .int .u16 y3, .bool y4, .bool y5] 34)).cell? ⟨w.heap.size, 3, none⟩ = some (.int .u16 0) := (aa u0 3).trans rfl
 have p4 : (w2.alloc (.cells #[.int .u8 y0, .int .u8 y1, .int .u8 y2, .int .u16 y3, .bool y4, .bool y5] 34)).cell? ⟨w.heap.size, 4, none⟩ = some (.bool false) := (aa u0 4).trans rfl
 have p5 : (w2.alloc (.cells #[.int .u8 y0, .int .u8 y1, .int .u8 y2, .int .u16 y3, .bool y4, .bool y5] 34)).cell? ⟨w.heap.size, 5, none⟩ = some (.bool false) := (aa u0 5).trans rfl
 have q0 : (w2.alloc (.cells #[.int .u8 y0, .int .u8 y1, .int .u8 y2, .int .u16 y3, .bool y4, .bool y5] 34)).cell? ⟨w.heap.size + 1, 0, none⟩ = some (.int .u8 0) := (aa u1 0).trans rfl
 have q1 : (w2.alloc (.cells #[.int .u8 y0, .int .u8 y1, .int .u8 y2, .int .u16 y3, .bool y4, .bool y5] 34)).cell? ⟨w.heap.size + 1, 1, none⟩ = some (.int .u8 0) := (aa u1 1).trans rfl
 have q2 : (w2.alloc (.cells #[.int .u8 y0, .int .u8 y1, .int .u8 y2, .int .u16 y3, .bool y4, .bool y5] 34)).cell? ⟨w.heap.size + 1, 2, none⟩ = some (.int .u8 0) := (aa u1 2).trans rfl
 have q3 : (w2.alloc (.cells #[.int .u8 y0, .int .u8 y1, .int .u8 y2, .int .u16 y3, .bool y4, .bool y5] 34)).cell? ⟨w.heap.size + 1, 3, none⟩ = some (.int .u16 0) := (aa u1 3).trans rfl
 have q4 : (w2.alloc (.cells #[.int .u8 y0, .int .u8 y1, .int .u8 y2, .int .u16 y3, .bool y4, .bool y5] 34)).cell? ⟨w.heap.size + 1, 4, none⟩ = some (.bool false) := (aa u1 4).trans rfl
 have q5 : (w2.alloc (.cells #[.int .u8 y0, .int .u8 y1, .int .u8 y2, .int .u16 y3, .bool y4, .bool y5] 34)).cell? ⟨w.heap.size + 1, 5, none⟩ = some (.bool false) := (aa u1 5).trans rfl
 have f0 := fun i => ae u0 i
 have f1 := fun i => ae u1 i
 clear u3 u4
 go_wp2
 have m1 : (((((((((((((w2.alloc (.cells #[.int .u8 y0, .int .u8 y1, .int .u8 y2, .int .u16 y3, .bool y4, .bool y5] 34)).setCell ⟨w.heap.size, 0, none⟩ (.int .u8 0)).setCell ⟨w.heap.size, 1, none⟩ (.int .u8 0)).setCell ⟨w.heap.size, 2, none⟩ (.int .u8 0)).setCell ⟨w.heap.size, 3, none⟩ (.int .u16 0)).setCell ⟨w.heap.size, 4, none⟩ (.bool false)).setCell ⟨w.heap.size, 5, none⟩ (.bool false)).setCell ⟨w.heap.size + 1, 0, none⟩ (.int .u8 0)).setCell ⟨w.heap.size + 1, 1, none⟩ (.int .u8 0)).setCell ⟨w.heap.size + 1, 2, none⟩ (.int .u8 0)).setCell ⟨w.heap.size + 1, 3, none⟩ (.int .u16 0)).setCell ⟨w.heap.size + 1, 4, none⟩ (.bool false)).setCell ⟨w.heap.size + 1, 5, none⟩ (.bool false)).heap[w.heap.size]? = some (.cells #[.int .u8 0, .int .u8 0, .int .u8 0, .int .u16 0, .bool false, .bool false] 34 (0, 0)) := (id (al (al (al (al (al (al (an (an (an (an (an (an u0 0 _ rfl) 1 _ rfl) 2 _ rfl) 3 _ rfl) 4 _ rfl) 5 _ rfl) (by simp) _) (by simp) _) (by simp) _) (by simp) _) (by simp) _) (by simp) _))
 have m2 : (((((((((((((w2.alloc (.cells #[.int .u8 y0, .int .u8 y1, .int .u8 y2, .int .u16 y3, .bool y4, .bool y5] 34)).setCell ⟨w.heap.size, 0, none⟩ (.int .u8 0)).setCell ⟨w.heap.size, 1, none⟩ (.int .u8 0)).setCell ⟨w.heap.size, 2, none⟩ (.int .u8 0)).setCell ⟨w.heap.size, 3, none⟩ (.int .u16 0)).setCell ⟨w.heap.size, 4, none⟩ (.bool false)).setCell ⟨w.heap.size, 5, none⟩ (.bool false)).setCell ⟨w.heap.size + 1, 0, none⟩ (.int .u8 0)).setCell ⟨w.heap.size + 1, 1, none⟩ (.int .u8 0)).setCell ⟨w.heap.size + 1, 2, none⟩ (.int .u8 0)).setCell ⟨w.heap.size + 1, 3, none⟩ (.int .u16 0)).setCell ⟨w.heap.size + 1, 4, none⟩ (.bool false)).setCell ⟨w.heap.size + 1, 5, none⟩ (.bool false)).heap[w.heap.size + 1]? = some (.cells #[.int .u8 0, .int .u8 0, .int .u8 0, .int .u16 0, .bool false, .bool false] 34 (0, 0)) := (id (an (an (an (an (an (an (al (al (al (al (al (al u1 (by simp) _) (by simp) _) (by simp) _) (by simp) _) (by simp) _) (by simp) _) 0 _ rfl) 1 _ rfl) 2 _ rfl) 3 _ rfl) 4 _ rfl) 5 _ rfl))
 have m3 : Below w.heap.size w (((((((((((((w2.alloc (.cells #[.int .u8 y0, .int .u8 y1, .int .u8 y2, .int .u16 y3, .bool y4, .bool y5] 34)).setCell ⟨w.heap.size, 0, none⟩ (.int .u8 0)).setCell ⟨w.heap.size, 1, none⟩ (.int .u8 0)).setCell ⟨w.heap.size, 2, none⟩ (.int .u8 0)).setCell ⟨w.heap.size, 3, none⟩ (.int .u16 0)).setCell ⟨w.heap.size, 4, none⟩ (.bool false)).setCell ⟨w.heap.size, 5, none⟩ (.bool false)).setCell ⟨w.heap.size + 1, 0, none⟩ (.int .u8 0)).setCell ⟨w.heap.size + 1, 1, none⟩ (.int .u8 0)).setCell ⟨w.heap.size + 1, 2, none⟩ (.int .u8 0)).setCell ⟨w.heap.size + 1, 3, none⟩ (.int .u16 0)).setCell ⟨w.heap.size + 1, 4, none⟩ (.bool false)).setCell ⟨w.heap.size + 1, 5, none⟩ (.bool false)) := (id (ag (ag (ag (ag (ag (ag (ag (ag (ag (ag (ag (ag u2 (Nat.le_refl _)) (Nat.le_refl _)) (Nat.le_refl _)) (Nat.le_refl _)) (Nat.le_refl _)) (Nat.le_refl _)) (Nat.le_succ _)) (Nat.le_succ _)) (Nat.le_succ _)) (Nat.le_succ _)) (Nat.le_succ _)) (Nat.le_succ _)))
 generalize (((((((((((((w2.alloc (.cells #[.int .u8 y0, .int .u8 y1, .int .u8 y2, .int .u16 y3, .bool y4, .bool y5] 34)).setCell ⟨w.heap.size, 0, none⟩ (.int .u8 0)).setCell ⟨w.heap.size, 1, none⟩ (.int .u8 0)).setCell ⟨w.heap.size, 2, none⟩ (.int .u8 0)).setCell ⟨w.heap.size, 3, none⟩ (.int .u16 0)).setCell ⟨w.heap.size, 4, none⟩ (.bool false)).setCell ⟨w.heap.size, 5, none⟩ (.bool false)).setCell ⟨w.heap.size + 1, 0, none⟩ (.int .u8 0)).setCell ⟨w.heap.size + 1, 1, none⟩ (.int .u8 0)).setCell ⟨w.heap.size + 1, 2, none⟩ (.int .u8 0)).setCell ⟨w.heap.size + 1, 3, none⟩ (.int .u16 0)).setCell ⟨w.heap.size + 1, 4, none⟩ (.bool false)).setCell ⟨w.heap.size + 1, 5, none⟩ (.bool false)) = YY at m1 m2 m3 ⊢
 have U0 : YY.cell? ⟨w.heap.size, 0, none⟩ = some (.int .u8 0) := (aa m1 0).trans rfl
 have T0 : YY.cell? ⟨w.heap.size + 1, 0, none⟩ = some (.int .u8 0) := (aa m2 0).trans rfl
 have U1 : YY.cell? ⟨w.heap.size, 1, none⟩ = some (.int .u8 0) := (aa m1 1).trans rfl
 have T1 : YY.cell? ⟨w.heap.size + 1, 1, none⟩ = some (.int .u8 0) := (aa m2 1).trans rfl
 have U2 : YY.cell? ⟨w.heap.size, 2, none⟩ = some (.int .u8 0) := (aa m1 2).trans rfl
 have T2 : YY.cell? ⟨w.heap.size + 1, 2, none⟩ = some (.int .u8 0) := (aa m2 2).trans rfl
 have U3 : YY.cell? ⟨w.heap.size, 3, none⟩ = some (.int .u16 0) := (aa m1 3).trans rfl
 have T3 : YY.cell? ⟨w.heap.size + 1, 3, none⟩ = some (.int .u16 0) := (aa m2 3).trans rfl
 have U4 : YY.cell? ⟨w.heap.size, 4, none⟩ = some (.bool false) := (aa m1 4).trans rfl
 have T4 : YY.cell? ⟨w.heap.size + 1, 4, none⟩ = some (.bool false) := (aa m2 4).trans rfl
 have U5 : YY.cell? ⟨w.heap.size, 5, none⟩ = some (.bool false) := (aa m1 5).trans rfl
 have T5 : YY.cell? ⟨w.heap.size + 1, 5, none⟩ = some (.bool false) := (aa m2 5).trans rfl
 exact bodyPost_ret (v := .tuple #[.agg #[.int .u8 0, .int .u8 0, .int .u8 0, .int .u16 0, .bool false, .bool false], .agg #[.int .u8 0, .int .u8 0, .int .u8 0, .int .u16 0, .bool false, .bool false], .int .i64 6]) (by simp [results, Try.results51, go_sem, U0, T0, U1, T1, U2, T2, U3, T3, U4, T4, U5, T5]) rfl ⟨rfl, m3⟩
theorem rof_len (A : Option Addr) (c : Nat) (l : List Int) (hl : ¬ (l.length : Int) = 10) (w : World) :
  Calls Try.prog 51 #[.slice A l.length c] w fun e' w' => e' = .returned (.tuple #[.agg #[.int .u8 0, .int .u8 0, .int .u8 0, .int .u16 0, .bool false, .bool false], .agg #[.int .u8 0, .int .u8 0, .int .u8 0, .int .u16 0, .bool false, .bool false], .int .i64 5]) ∧ Below w.heap.size w w' := by
 go_enter Try.func51, Try.ntmps51
 go_wp2
 refine bodyPost_ret (v := .tuple #[.agg #[.int .u8 0, .int .u8 0, .int .u8 0, .int .u16 0, .bool false, .bool false], .agg #[.int .u8 0, .int .u8 0, .int .u8 0, .int .u16 0, .bool false, .bool false], .int .i64 5]) (by simp [results, Try.results51, go_sem]) rfl ⟨rfl, by go_grown⟩
def bO.f (l0 : List Int) : Option (Int × Int × Int × Int × Bool × Bool × Int × Int × Int × Int × Bool × Bool × Int) :=
 if (l0.length : Int) = 10 then (aN.f (l0.take 5)).bind fun p => (aN.f (l0.drop 5)).bind fun q =>
  if p.2.2.2.2.2.2 = true then (if q.2.2.2.2.2.2 = true then some (p.1, p.2.1, p.2.2.1, p.2.2.2.1, p.2.2.2.2.1, p.2.2.2.2.2.1, q.1, q.2.1, q.2.2.1, q.2.2.2.1, q.2.2.2.2.1, q.2.2.2.2.2.1, 0) else some (0, 0, 0, 0, false, false, 0, 0, 0, 0, false, false, 6)) else some (0, 0, 0, 0, false, false, 0, 0, 0, 0, false, false, 6)
 else some (0, 0, 0, 0, false, false, 0, 0, 0, 0, false, false, 5)
theorem bO.calls (A0 : Option Addr) (c0 : Nat) (l0 : List Int) (r1 : Int) (r2 : Int) (r3 : Int) (r4 : Int) (r5 : Bool) (r6 : Bool) (r7 : Int) (r8 : Int) (r9 : Int) (r10 : Int) (r11 : Bool) (r12 : Bool) (r13 : Int) (w : World) (hr0 : Kd.C (Kd.int .u8) w A0 l0.length l0) (hc0 : l0.length ≤ c0) (h : bO.f l0 = some (r1, r2, r3, r4, r5, r6, r7, r8, r9, r10, r11, r12, r13)) :
  Calls Try.prog 51 #[.slice A0 l0.length c0] w fun e w' => e = .returned (.tuple #[.agg #[.int .u8 r1, .int .u8 r2, .int .u8 r3, .int .u16 r4, .bool r5, .bool r6], .agg #[.int .u8 r7, .int .u8 r8, .int .u8 r9, .int .u16 r10, .bool r11, .bool r12], .int .i64 r13]) ∧ Below w.heap.size w w' := by
 unfold bO.f at h
 by_cases hl : (l0.length : Int) = 10
 case neg =>
  rw [if_neg hl] at h
  cases h
  exact rof_len A0 c0 l0 hl w
 rw [if_pos hl] at h
 obtain ⟨⟨x1, x2, x3, x4, x5, x6, a⟩, h0, h⟩ := Option.bind_eq_some_iff.mp h
 obtain ⟨⟨y1, y2, y3, y4, y5, y6, b⟩, h1, h⟩ := Option.bind_eq_some_iff.mp h
 cases a with
 | false =>
  rw [if_neg (by simp)] at h
  cases h
  exact rof_one A0 c0 l0 (by omega) _ _ _ _ _ _ _ _ _ _ _ _ b h0 h1 w hr0 hc0
 | true =>
  cases b with
  | false =>
   rw [if_pos rfl, if_neg (by simp)] at h
   cases h
   exact rof_two A0 c0 l0 (by omega) _ _ _ _ _ _ _ _ _ _ _ _ h0 h1 w hr0 hc0
  | true =>
   rw [if_pos rfl, if_pos rfl] at h
   cases h
   exact rof_ok A0 c0 l0 (by omega) _ _ _ _ _ _ _ _ _ _ _ _ h0 h1 w hr0 hc0
end Go.Proofs.Ytmjjojbedllmgaa.Hand
section
namespace Go.Proofs.Ytmjjojbedllmgaa.Hand
structure Tk (u W : World) (g1 g3 g4 : Nat) (n o : Array Value) : Prop where
 b : Below u.heap.size u W
 z : W.heap[g1]? = some (.cells #[.int .u8 0, .int .u8 0, .int .u8 0, .int .u16 0, .bool false, .bool false] 34 (0, 0))
 n : W.heap[g3]? = some (.cells n 34 (0, 0))
 o : W.heap[g4]? = some (.cells o 34 (0, 0))
 l : u.heap.size ≤ g1
 x : g1 ≠ g4
 y : g3 ≠ g4
 v : u.heap.size ≤ g4
theorem Tk.below {u W W' : World} {g1 g3 g4 : Nat} {n o : Array Value} (h : Tk u W g1 g3 g4 n o) (k : Below W.heap.size W W') : Tk u W' g1 g3 g4 n o :=
 ⟨ak h.b k, af h.z k, af h.n k, af h.o k, h.l, h.x, h.y, h.v⟩
theorem Tk.all {u W : World} {g1 g3 g4 : Nat} {n0 n1 n2 n3 n4 n5 o0 o1 o2 o3 o4 o5 : Value} (h : Tk u W g1 g3 g4 #[n0, n1, n2, n3, n4, n5] #[o0, o1, o2, o3, o4, o5]) :
  (W.cell? ⟨g3, 0, none⟩ = some n0 ∧ W.cell? ⟨g3, 1, none⟩ = some n1 ∧ W.cell? ⟨g3, 2, none⟩ = some n2 ∧ W.cell? ⟨g3, 3, none⟩ = some n3 ∧ W.cell? ⟨g3, 4, none⟩ = some n4 ∧ W.cell? ⟨g3, 5, none⟩ = some n5) ∧ (W.cell? ⟨g4, 0, none⟩ = some o0 ∧ W.cell? ⟨g4, 1, none⟩ = some o1 ∧ W.cell? ⟨g4, 2, none⟩ = some o2 ∧ W.cell? ⟨g4, 3, none⟩ = some o3 ∧ W.cell? ⟨g4, 4, none⟩ = some o4 ∧ W.cell? ⟨g4, 5, none⟩ = some o5) ∧ ∀ i, W.frozen? ⟨g4, i, none⟩ = false :=
 ⟨c6 h.n, c6 h.o, fun i => ae h.o i⟩
section
variable {P : Program} {ops : Array Oper} {op op' : Oper} {rest : List Oper} {a : Act} {Q : Exit → Act → World → Prop} {u W : World} {g1 g3 g4 : Nat} {n o : Array Value}
theorem Tk.named {N : Tmp} (_hN : op.dst = some N) {i : Nat} {v : Value} (h : Tk u W g1 g3 g4 n o) (k : ∀ Y, Tk u Y g1 g3 g4 n (o.setIfInBounds i v) → wpList P ops Q (op :: rest) a Y) : wpList P ops Q (op :: rest) a (W.setCell ⟨g4, i, none⟩ v) := by
 refine k _ ⟨ag h.b h.v, al h.z h.x v, al h.n h.y v, an h.o i v rfl, h.l, h.x, h.y, h.v⟩
theorem Tk.done (p : Tmp) (y : Operand) (hgd : op.guard = none) (ho : op.op = .store 34 (.tmp p) y) {res : Array Value} (h : Tk u W g1 g3 g4 n o) (hx : a.eval (.tmp p) = .pointer (some ⟨g1, 0, none⟩)) (hy : a.eval y = .agg res) (hs : res.size = 6) (hi : (P.info? 34).map (·.size) = some 6) (h1 : res.all (·.oneCell') = true)
  (k : ∀ Y, Y.heap[g1]? = some (.cells res 34 (0, 0)) → Below u.heap.size u Y → wpList P ops Q rest (a.put op.dst undef) Y) : wpList P ops Q (op :: rest) a W :=
 wpList_store_mid hgd 34 (.tmp p) y ho g1 0 res hx hy (blk_there h.z 0 _ (by rw [hs]; decide)) (by rw [hi, hs]) h1 (k _ (blk_setAll h.z _ hs) (ay h.b _ _ h.l _))
theorem Tk.fill (p : Tmp) (y : Operand) {W2 : World} {g : Nat} (hgd : op.guard = none) (ho : op.op = .store 34 (.tmp p) y) (hb : Below u.heap.size u W) (hz : W.heap[g1]? = some (.cells #[.int .u8 0, .int .u8 0, .int .u8 0, .int .u16 0, .bool false, .bool false] 34 (0, 0))) (hn : W.heap[g3]? = some (.cells n 34 (0, 0))) (hl : u.heap.size ≤ g1) (hg : g = W.heap.size) (h : W2.heap[g]? = some (.cells #[.int .u8 0, .int .u8 0, .int .u8 0, .int .u16 0, .bool false, .bool false] 34 (0, 0))) (hb2 : Below W.heap.size W W2)
  {res : Array Value} (hx : a.eval (.tmp p) = .pointer (some ⟨g, 0, none⟩)) (hy : a.eval y = .agg res) (hs : res.size = 6) (hi : (P.info? 34).map (·.size) = some 6) (h1 : res.all (·.oneCell') = true) (k : ∀ Y, Tk u Y g1 g3 g n res → wpList P ops Q rest (a.put op.dst undef) Y) : wpList P ops Q (op :: rest) a W2 := by
 have e1 := aZ hz
 have e3 := aZ hn
 have p := aw hb
 subst hg
 exact wpList_store_mid hgd 34 _ y ho _ 0 res hx hy (blk_there h 0 _ (by rw [hs]; decide)) (by rw [hi, hs]) h1 (k _ ⟨ay (ak hb hb2) _ _ p _, blk_setFar (af hz hb2) (by omega) _ _, blk_setFar (af hn hb2) (by omega) _ _, blk_setAll h _ hs, hl, by omega, by omega, p⟩)
end
def rtR (s m h d x y z : Int) (ht cy b0 b1 b2 b3 : Bool) : Array Value := if ht = true then #[.int .u8 s, .int .u8 m, .int .u8 h, .int .u16 d, .bool ht, .bool cy] else #[.int .u8 x, .int .u8 (if b0 = true then y else m), .int .u8 (if (b0 && b1) = true then z else h), .int .u16 (if (b0 && b1 && b2) = true then (if b3 = true then 0 else IntKind.u16.wrap (d + 1)) else d), .bool ht, .bool (if (b0 && b1 && b2 && b3) = true then true else cy)]
theorem rt_go (s m h d x y z : Int) (ht cy b0 b1 b2 b3 : Bool) (k0 : (s == 59) = b0) (k1 : (m == 59) = b1) (k2 : (h == 23) = b2) (k3 : (d == 511) = b3) (hn : Puts 72 #[.agg #[.int .u8 s, .int .u8 m, .int .u8 h, .int .u16 d, .bool ht, .bool cy]] (.agg #[.int .u8 s, .int .u8 m, .int .u8 h, .int .u16 d, .bool ht, .bool cy])) (h0 : Puts 75 #[.int .u8 s, .int .u8 59, .int .u8 64] (.int .u8 x)) (h1 : Puts 75 #[.int .u8 m, .int .u8 59, .int .u8 64] (.int .u8 y)) (h2 : Puts 75 #[.int .u8 h, .int .u8 23, .int .u8 32] (.int .u8 z)) : Puts 47 #[.agg #[.int .u8 s, .int .u8 m, .int .u8 h, .int .u16 d, .bool ht, .bool cy]] (.agg (rtR s m h d x y z ht cy b0 b1 b2 b3)) := by
 intro w
 have q := heap_alloc_new (w.alloc (.cells #[.int .u8 s, .int .u8 m, .int .u8 h, .int .u16 d, .bool ht, .bool cy] 34)) (.cells #[.int .u8 0, .int .u8 0, .int .u8 0, .int .u16 0, .bool false, .bool false] 34)
 have HB := ab.mk (ac (ac (Below.refl w.heap.size w) (.cells #[.int .u8 s, .int .u8 m, .int .u8 h, .int .u16 d, .bool ht, .bool cy] 34)) (.cells #[.int .u8 0, .int .u8 0, .int .u8 0, .int .u16 0, .bool false, .bool false] 34))
 have hz : (w.alloc (.cells #[.int .u8 s, .int .u8 m, .int .u8 h, .int .u16 d, .bool ht, .bool cy] 34)).heap.size = w.heap.size + 1 := by simp
 rw [hz] at q
 have BR := ab.mk q
 clear q hz
 cases ht
 rotate_left
 rotate_left
 cases b0
 rotate_left
 cases b1
 rotate_left
 cases b2
 rotate_left
 cases b3
 all_goals
  go_enter Try.func47, Try.ntmps47
  go_wp2_with (first
   | ((with_reducible refine cn (f := 72) rfl ?_); refine goesL_ (some 6) rfl rfl Try.func72 (by kernel_rfl) rfl #[.agg #[.int .u8 s, .int .u8 m, .int .u8 h, .int .u16 d, .bool _, .bool cy]] rfl (by simp only [List.map_toArray, List.map_cons, List.map_nil]; rfl) ?_; (with_reducible refine (hn.run _).mono ?_); rintro e w1 ⟨rfl, hb⟩; refine ⟨_, rfl, ?_⟩; have n0 := ab.mk (af BR.out hb); have n1 := ab.mk (ak HB.out hb); clear hb BR HB)
   | ((with_reducible refine ar (N := 3) rfl ?_); refine bf ?hg (N := 3) ?hd (cs := #[.int .u8 0, .int .u8 0, .int .u8 0, .int .u16 0, .bool false, .bool false]) (t := 34) ?hr ?_; (case hd => rfl); (case hg => rfl); (case hr => go_simp; done); intro g3 hg w2 hbox hb; simp only [Act.put, List.setIfInBounds_toArray, List.set_cons_zero, List.set_cons_succ])
   | ((with_reducible refine az (p := 3) rfl ?_); refine Tk.fill (g3 := w.heap.size + 1) 3 _ rfl rfl n1.out n0.out n0.out (Nat.le_succ _) hg hbox hb rfl rfl rfl (by kernel_rfl) (by simp [Value.oneCell']) ?_; intro Y t; simp only [Act.put, List.setIfInBounds_toArray, List.set_cons_zero, List.set_cons_succ]; clear n0 n1 hbox hb hg; have T := ab.mk t; clear t; obtain ⟨⟨d0, d1, d2, d3, d4, d5⟩, ⟨o0, o1, o2, o3, o4, o5⟩, fo⟩ := T.out.all)
   | ((with_reducible refine ar (N := 4) rfl ?_); refine bf ?hg (N := 4) ?hd (cs := #[.int .u8 0, .int .u8 0, .int .u8 0, .int .u16 0, .bool false, .bool false]) (t := 34) ?hr ?_; (case hd => rfl); (case hg => rfl); (case hr => go_simp; done); intro g4 hg w3 hbox hb; simp only [Act.put, List.setIfInBounds_toArray, List.set_cons_zero, List.set_cons_succ])
   | ((with_reducible refine az (p := 4) rfl ?_); refine Tk.fill (g3 := g3) 4 _ rfl rfl T.out.b T.out.z T.out.o (Nat.le_succ _) hg hbox hb rfl rfl rfl (by kernel_rfl) (by simp [Value.oneCell']) ?_; intro Y t; simp only [Act.put, List.setIfInBounds_toArray, List.set_cons_zero, List.set_cons_succ]; clear T d0 d1 d2 d3 d4 d5 o0 o1 o2 o3 o4 o5 fo hbox hb hg; have T := ab.mk t; clear t; obtain ⟨⟨d0, d1, d2, d3, d4, d5⟩, ⟨o0, o1, o2, o3, o4, o5⟩, fo⟩ := T.out.all)
   | ((with_reducible refine ar (N := 13) rfl ?_); refine goesL_ (some 13) rfl rfl Try.func75 (by kernel_rfl) rfl #[.int .u8 s, .int .u8 59, .int .u8 64] rfl (by simp only [List.map_toArray, List.map_cons, List.map_nil]; rfl) ?_; (with_reducible refine (h0.run _).mono ?_); rintro e Y ⟨rfl, hb⟩; refine ⟨_, rfl, ?_⟩; have t := ab.mk (T.out.below hb); clear hb; clear T d0 d1 d2 d3 d4 d5 o0 o1 o2 o3 o4 o5 fo; have T := t; clear t; obtain ⟨⟨d0, d1, d2, d3, d4, d5⟩, ⟨o0, o1, o2, o3, o4, o5⟩, fo⟩ := T.out.all)
   | ((with_reducible refine ar (N := 20) rfl ?_); refine goesL_ (some 20) rfl rfl Try.func75 (by kernel_rfl) rfl #[.int .u8 m, .int .u8 59, .int .u8 64] rfl (by simp only [List.map_toArray, List.map_cons, List.map_nil]; rfl) ?_; (with_reducible refine (h1.run _).mono ?_); rintro e Y ⟨rfl, hb⟩; refine ⟨_, rfl, ?_⟩; have t := ab.mk (T.out.below hb); clear hb; clear T d0 d1 d2 d3 d4 d5 o0 o1 o2 o3 o4 o5 fo; have T := t; clear t; obtain ⟨⟨d0, d1, d2, d3, d4, d5⟩, ⟨o0, o1, o2, o3, o4, o5⟩, fo⟩ := T.out.all)
   | ((with_reducible refine ar (N := 32) rfl ?_); refine goesL_ (some 32) rfl rfl Try.func75 (by kernel_rfl) rfl #[.int .u8 h, .int .u8 23, .int .u8 32] rfl (by simp only [List.map_toArray, List.map_cons, List.map_nil]; rfl) ?_; (with_reducible refine (h2.run _).mono ?_); rintro e Y ⟨rfl, hb⟩; refine ⟨_, rfl, ?_⟩; have t := ab.mk (T.out.below hb); clear hb; clear T d0 d1 d2 d3 d4 d5 o0 o1 o2 o3 o4 o5 fo; have T := t; clear t; obtain ⟨⟨d0, d1, d2, d3, d4, d5⟩, ⟨o0, o1, o2, o3, o4, o5⟩, fo⟩ := T.out.all)
   | ((with_reducible refine ar (N := 15) rfl ?_); with_reducible refine Tk.named (N := 15) rfl T.out ?_; intro Y t_; simp only [List.setIfInBounds_toArray, List.set_cons_zero, List.set_cons_succ] at t_; have t := ab.mk t_; clear t_; clear T d0 d1 d2 d3 d4 d5 o0 o1 o2 o3 o4 o5 fo; have T := t; clear t; obtain ⟨⟨d0, d1, d2, d3, d4, d5⟩, ⟨o0, o1, o2, o3, o4, o5⟩, fo⟩ := T.out.all)
   | ((with_reducible refine ar (N := 22) rfl ?_); with_reducible refine Tk.named (N := 22) rfl T.out ?_; intro Y t_; simp only [List.setIfInBounds_toArray, List.set_cons_zero, List.set_cons_succ] at t_; have t := ab.mk t_; clear t_; clear T d0 d1 d2 d3 d4 d5 o0 o1 o2 o3 o4 o5 fo; have T := t; clear t; obtain ⟨⟨d0, d1, d2, d3, d4, d5⟩, ⟨o0, o1, o2, o3, o4, o5⟩, fo⟩ := T.out.all)
   | ((with_reducible refine ar (N := 34) rfl ?_); with_reducible refine Tk.named (N := 34) rfl T.out ?_; intro Y t_; simp only [List.setIfInBounds_toArray, List.set_cons_zero, List.set_cons_succ] at t_; have t := ab.mk t_; clear t_; clear T d0 d1 d2 d3 d4 d5 o0 o1 o2 o3 o4 o5 fo; have T := t; clear t; obtain ⟨⟨d0, d1, d2, d3, d4, d5⟩, ⟨o0, o1, o2, o3, o4, o5⟩, fo⟩ := T.out.all)
   | ((with_reducible refine ar (N := 51) rfl ?_); with_reducible refine Tk.named (N := 51) rfl T.out ?_; intro Y t_; simp only [List.setIfInBounds_toArray, List.set_cons_zero, List.set_cons_succ] at t_; have t := ab.mk t_; clear t_; clear T d0 d1 d2 d3 d4 d5 o0 o1 o2 o3 o4 o5 fo; have T := t; clear t; obtain ⟨⟨d0, d1, d2, d3, d4, d5⟩, ⟨o0, o1, o2, o3, o4, o5⟩, fo⟩ := T.out.all)
   | ((with_reducible refine ar (N := 56) rfl ?_); with_reducible refine Tk.named (N := 56) rfl T.out ?_; intro Y t_; simp only [List.setIfInBounds_toArray, List.set_cons_zero, List.set_cons_succ] at t_; have t := ab.mk t_; clear t_; clear T d0 d1 d2 d3 d4 d5 o0 o1 o2 o3 o4 o5 fo; have T := t; clear t; obtain ⟨⟨d0, d1, d2, d3, d4, d5⟩, ⟨o0, o1, o2, o3, o4, o5⟩, fo⟩ := T.out.all)
   | ((with_reducible refine az (p := 2) rfl ?_); refine Tk.done 2 _ rfl rfl T.out rfl rfl rfl (by kernel_rfl) (by simp [Value.oneCell']) ?_; intro Y m1 m2; simp only [Act.put, List.setIfInBounds_toArray, List.set_cons_zero, List.set_cons_succ]; clear T d0 d1 d2 d3 d4 d5 o0 o1 o2 o3 o4 o5 fo; have M1 := ab.mk m1; have M2 := ab.mk m2; clear m1 m2))
  obtain ⟨u0, u1, u2, u3, u4, u5⟩ := c6 M1.out
  exact bodyPost_ret (by simp [results, Try.results47, go_sem, u0, u1, u2, u3, u4, u5]; rfl) rfl ⟨rfl, M2.out⟩
end Go.Proofs.Ytmjjojbedllmgaa.Hand
end
namespace Go.Proofs.Ytmjjojbedllmgaa.G
mutual
def aA.l0 : Nat → List Int → Int → Int → Int → Int → Int → Bool → Bool → Int → Int → Int → Int → Bool → Bool → Option (List Int)
 | 0, _, _, _, _, _, _, _, _, _, _, _, _, _, _ => none
 | k + 1, x5, x6, x307000, x307001, x307002, x307003, x307004, x307005, x308000, x308001, x308002, x308003, x308004, x308005 => if x6 ≤ 12 then ((bl.f x307000 x307001 x307002 x307003 x307004 x307005 x6).bind fun bt308 => (if x5.length < 140737488355328 then (aA.l0 k (x5 ++ [bt308.1]) (wrap64 (x6 + 1)) x307000 x307001 x307002 x307003 x307004 x307005 x308000 x308001 x308002 x308003 x308004 x308005) else (none))) else (aA.l1 k x5 8 x308000 x308001 x308002 x308003 x308004 x308005)
def aA.l1 : Nat → List Int → Int → Int → Int → Int → Int → Bool → Bool → Option (List Int)
 | 0, _, _, _, _, _, _, _, _ => none
 | k + 1, x5, x9, x308000, x308001, x308002, x308003, x308004, x308005 => if x9 ≤ 12 then ((bl.f x308000 x308001 x308002 x308003 x308004 x308005 x9).bind fun bt313 => (if x5.length < 140737488355328 then (aA.l1 k (x5 ++ [bt313.1]) (wrap64 (x9 + 1)) x308000 x308001 x308002 x308003 x308004 x308005) else (none))) else (some x5)
end
def aA.f (k : Nat) (a0_0 : Int) (a0_1 : Int) (a0_2 : Int) (a0_3 : Int) (a0_4 : Bool) (a0_5 : Bool) (a1_0 : Int) (a1_1 : Int) (a1_2 : Int) (a1_3 : Int) (a1_4 : Bool) (a1_5 : Bool) : Option (List Int) := aA.l0 k ([] : List Int) 8 a0_0 a0_1 a0_2 a0_3 a0_4 a0_5 a1_0 a1_1 a1_2 a1_3 a1_4 a1_5
theorem aA.calls (k : Nat) (a0_0 : Int) (a0_1 : Int) (a0_2 : Int) (a0_3 : Int) (a0_4 : Bool) (a0_5 : Bool) (a1_0 : Int) (a1_1 : Int) (a1_2 : Int) (a1_3 : Int) (a1_4 : Bool) (a1_5 : Bool) (r : List Int) (w : World) (h : aA.f k a0_0 a0_1 a0_2 a0_3 a0_4 a0_5 a1_0 a1_1 a1_2 a1_3 a1_4 a1_5 = some r) :
  Calls Try.prog 49 #[.agg #[.int .u8 a0_0, .int .u8 a0_1, .int .u8 a0_2, .int .u16 a0_3, .bool a0_4, .bool a0_5], .agg #[.int .u8 a1_0, .int .u8 a1_1, .int .u8 a1_2, .int .u16 a1_3, .bool a1_4, .bool a1_5]] w fun e w' => ∃ v0_ : Value, e = .returned (v0_) ∧ Kd.R (Kd.int .u8) 5 w' w.heap.size (fun _ => True) v0_ r ∧ Below w.heap.size w w' := by
 have hu34 := Try.underlying34
 have HB := ab.mk (Below.refl w.heap.size w)
 have H : (aA.l0 k ([] : List Int) 8 a0_0 a0_1 a0_2 a0_3 a0_4 a0_5 a1_0 a1_1 a1_2 a1_3 a1_4 a1_5) = some r := h
 clear h
 have H' := ab.mk H
 clear H
 go_enter Try.func49, Try.ntmps49
 go_wp2_with (first | ((with_reducible refine ar (N := 2) rfl ?_); refine bf ?hg (N := 2) ?hd (cs := #[.int .u8 a0_0, .int .u8 a0_1, .int .u8 a0_2, .int .u16 a0_3, .bool a0_4, .bool a0_5]) (t := 34) ?hr ?_; (case hd => rfl); (case hg => rfl); (case hr => first | (go_simp; done) | (go_simp; rfl)); intro gb306 hg w3 hbox hb; have n0_ := ab.mk (ak (by repeat (first | (with_reducible first | exact HB.out | apply ac | apply ai | apply aj) | exact HB.out)) hb); have n1_ := ab.mk (hbox); have n2_ := ab.mk ((by rw [hg]; exact (aw (by repeat (first | (with_reducible first | exact HB.out | apply ac | apply ai | apply aj) | exact HB.out))) : w.heap.size ≤ gb306)); have n3_ := ab.mk ((by rw [hg]; exact (aw (by repeat (first | (with_reducible first | exact HB.out | apply ac | apply ai | apply aj) | exact HB.out))) : w.heap.size ≤ gb306)); clear HB; have HB := n0_; have BK306 := n1_; have GW306 := n2_; have GE306 := n3_; clear n0_ n1_ n2_ n3_; clear hb hbox hg) | ((with_reducible refine ar (N := 3) rfl ?_); refine bf ?hg (N := 3) ?hd (cs := #[.int .u8 a1_0, .int .u8 a1_1, .int .u8 a1_2, .int .u16 a1_3, .bool a1_4, .bool a1_5]) (t := 34) ?hr ?_; (case hd => rfl); (case hg => rfl); (case hr => first | (go_simp; done) | (go_simp; rfl)); intro gb307 hg w4 hbox hb; have n0_ := ab.mk (af (g := gb306) (o := .cells #[.int .u8 a0_0, .int .u8 a0_1, .int .u8 a0_2, .int .u16 a0_3, .bool a0_4, .bool a0_5] 34 (0, 0)) (by (with_reducible repeat (first | refine au ?_ _ | refine ap ?_ | refine ah ?_ _)); exact BK306.out) hb); have n1_ := ab.mk (ak (by repeat (first | (with_reducible first | exact HB.out | apply ac | apply ai | apply aj | refine ag ?_ GE306.out) | exact HB.out)) hb); have n2_ := ab.mk (hbox); have n3_ := ab.mk ((by rw [hg]; exact (aw (by repeat (first | (with_reducible first | exact HB.out | apply ac | apply ai | apply aj | refine ag ?_ GE306.out) | exact HB.out))) : w.heap.size ≤ gb307)); have n4_ := ab.mk ((by rw [hg]; exact (aw (by repeat (first | (with_reducible first | exact HB.out | apply ac | apply ai | apply aj | refine ag ?_ GE306.out) | exact HB.out))) : w.heap.size ≤ gb307)); have n5_ := ab.mk ((by rw [hg]; exact Nat.ne_of_lt (aZ (g := gb306) (o := .cells #[.int .u8 a0_0, .int .u8 a0_1, .int .u8 a0_2, .int .u16 a0_3, .bool a0_4, .bool a0_5] 34 (0, 0)) (by (with_reducible repeat (first | refine au ?_ _ | refine ap ?_ | refine ah ?_ _)); exact BK306.out)) : gb306 ≠ gb307)); have n6_ := ab.mk ((by rw [hg]; exact Nat.ne_of_gt (aZ (g := gb306) (o := .cells #[.int .u8 a0_0, .int .u8 a0_1, .int .u8 a0_2, .int .u16 a0_3, .bool a0_4, .bool a0_5] 34 (0, 0)) (by (with_reducible repeat (first | refine au ?_ _ | refine ap ?_ | refine ah ?_ _)); exact BK306.out)) : gb307 ≠ gb306)); clear BK306; clear HB; have BK306 := n0_; have HB := n1_; have BK307 := n2_; have GW307 := n3_; have GE307 := n4_; have NB306_307 := n5_; have NB307_306 := n6_; clear n0_ n1_ n2_ n3_ n4_ n5_ n6_; clear hb hbox hg))
 go_loopg [5, 6] k (fun kq v5 v6 w' => ∃ (x5_1 : List Int) (x6_1 : Int), v6 = .int .i64 x6_1 ∧ ab (aA.l0 kq x5_1 x6_1 a0_0 a0_1 a0_2 a0_3 a0_4 a0_5 a1_0 a1_1 a1_2 a1_3 a1_4 a1_5 = some r) ∧ ab (kq ≤ k) ∧ ab (Kd.R (Kd.int .u8) 5 w' w.heap.size (fun _ => True) v5 x5_1) ∧ ab (w'.heap[gb306]? = some (.cells #[.int .u8 a0_0, .int .u8 a0_1, .int .u8 a0_2, .int .u16 a0_3, .bool a0_4, .bool a0_5] 34 (0, 0))) ∧ ab (w'.heap[gb307]? = some (.cells #[.int .u8 a1_0, .int .u8 a1_1, .int .u8 a1_2, .int .u16 a1_3, .bool a1_4, .bool a1_5] 34 (0, 0))) ∧ ab (Below w.heap.size w w'))
 case atStart => exact ⟨(([] : List Int)), (8), (by first | rfl | (simp; done) | (simp [*]; done)), H', ⟨Nat.le_refl _⟩, ⟨by first | exact Kd.R_nil _ _ _ _ _ | exact Kd.N_nil _ _ _ _ _ | exact Kd.V_nil _ _ _ _ _ | exact Kd.Q_nil _ _ _ _ _ | exact Kd.S_nil _ _ _ _ _⟩, ⟨by (with_reducible repeat (first | refine au ?_ _ | refine ap ?_ | refine ah ?_ _)); exact BK306.out⟩, ⟨by (with_reducible repeat (first | refine au ?_ _ | refine ap ?_ | refine ah ?_ _)); exact BK307.out⟩, ⟨by repeat (first | (with_reducible first | exact HB.out | apply ac | apply ai | apply aj | refine ag ?_ GE306.out | refine ag ?_ GE307.out) | exact HB.out)⟩⟩
 case round =>
  clear H'
  try clear p2
  try clear c4
  obtain ⟨x5_1, x6_1, rfl, HA, HK1, HO_5, BK306, BK307, HB⟩ := hrel
  cases gk with
  | zero => exact absurd HA.out (by simp [aA.l0])
  | succ k1 =>
   have H := HA.out
   clear HA
   simp only [aA.l0] at H
   by_cases c5 : x6_1 ≤ 12
   ·rw [if_pos c5] at H
    have c5b0 : decide (x6_1 ≤ 12) = true := decide_eq_true c5
    clear c5
    replace H := Option.bind_eq_some_iff.mp H
    obtain ⟨⟨t308, t309⟩, A60, H⟩ := H
    replace H : (if x5_1.length < 140737488355328 then (aA.l0 k1 (x5_1 ++ [t308]) (wrap64 (x6_1 + 1)) a0_0 a0_1 a0_2 a0_3 a0_4 a0_5 a1_0 a1_1 a1_2 a1_3 a1_4 a1_5) else (none)) = some r := H
    have A6 := ab.mk A60
    clear A60
    by_cases c7 : x5_1.length < 140737488355328
    ·rw [if_pos c7] at H
     have LMc7 := ab.mk c7
     clear c7
     obtain ⟨y310, hy310⟩ : ∃ y_ : List Int, y_ = (x5_1 ++ [t308]) := ⟨_, rfl⟩
     replace H : (aA.l0 k1 y310 (wrap64 (x6_1 + 1)) a0_0 a0_1 a0_2 a0_3 a0_4 a0_5 a1_0 a1_1 a1_2 a1_3 a1_4 a1_5) = some r := by first | (rw [hy310]; with_reducible exact H) | (have H2_ := (Option.bind_some _ _).symm.trans H; rw [hy310]; with_reducible exact H2_) | (have H2_ := (Option.bind_some _ _).symm.trans H; with_reducible exact H2_) | with_reducible exact H | (rw [hy310]; exact H) | exact H
     have Ny310 := ab.mk hy310
     clear hy310
     have H' := ab.mk H
     clear H
     have hnb8 := NB306_307.out
     have hnc8 := NB307_306.out
     have hcz9_0 : wr.cell? ⟨gb306, 0, none⟩ = some (.int .u8 a0_0) := (aa BK306.out 0).trans rfl
     have hcz9_1 : wr.cell? ⟨gb306, 1, none⟩ = some (.int .u8 a0_1) := (aa BK306.out 1).trans rfl
     have hcz9_2 : wr.cell? ⟨gb306, 2, none⟩ = some (.int .u8 a0_2) := (aa BK306.out 2).trans rfl
     have hcz9_3 : wr.cell? ⟨gb306, 3, none⟩ = some (.int .u16 a0_3) := (aa BK306.out 3).trans rfl
     have hcz9_4 : wr.cell? ⟨gb306, 4, none⟩ = some (.bool a0_4) := (aa BK306.out 4).trans rfl
     have hcz9_5 : wr.cell? ⟨gb306, 5, none⟩ = some (.bool a0_5) := (aa BK306.out 5).trans rfl
     have hfz9_0 := ae BK306.out 0
     have hfz9_1 := ae BK306.out 1
     have hfz9_2 := ae BK306.out 2
     have hfz9_3 := ae BK306.out 3
     have hfz9_4 := ae BK306.out 4
     have hfz9_5 := ae BK306.out 5
     go_wp2_with (first | ((with_reducible refine cn (f := 39) rfl ?_); refine goesL_ (some 19) rfl rfl Try.func39 (by kernel_rfl) rfl #[.agg #[.int .u8 a0_0, .int .u8 a0_1, .int .u8 a0_2, .int .u16 a0_3, .bool a0_4, .bool a0_5], .int .i64 x6_1] rfl (by (try simp only [List.map_toArray, List.map_cons, List.map_nil]); first | done | rfl | (simp only [List.length_drop, List.length_take]; rfl)) ?_; (with_reducible refine (bl.calls a0_0 a0_1 a0_2 a0_3 a0_4 a0_5 x6_1 t308 t309 _ A6.out).mono ?_); rintro e w10 ⟨rfl, hb⟩; refine ⟨_, rfl, ?_⟩; have n0_ := ab.mk (Kd.R_below (by (with_reducible repeat (first | apply Kd.R_alloc | apply Kd.R_drewN | apply Kd.R_drew)); exact HO_5.out) hb); have n1_ := ab.mk (af (g := gb306) (o := .cells #[.int .u8 a0_0, .int .u8 a0_1, .int .u8 a0_2, .int .u16 a0_3, .bool a0_4, .bool a0_5] 34 (0, 0)) (by (with_reducible repeat (first | refine au ?_ _ | refine ap ?_ | refine ah ?_ _)); exact BK306.out) hb); have n2_ := ab.mk (af (g := gb307) (o := .cells #[.int .u8 a1_0, .int .u8 a1_1, .int .u8 a1_2, .int .u16 a1_3, .bool a1_4, .bool a1_5] 34 (0, 0)) (by (with_reducible repeat (first | refine au ?_ _ | refine ap ?_ | refine ah ?_ _)); exact BK307.out) hb); have n3_ := ab.mk (ak (by repeat (first | (with_reducible first | exact HB.out | apply ac | apply ai | apply aj | refine ag ?_ GE306.out | refine ag ?_ GE307.out) | exact HB.out)) hb); clear HO_5; clear BK306; clear BK307; clear HB; have HO_5 := n0_; have BK306 := n1_; have BK307 := n2_; have HB := n3_; clear n0_ n1_ n2_ n3_; (try clear hb); (try clear hb2); (try clear hk); (try clear hi)) | ((with_reducible refine bJ (b := .append) (xs := #[.tmp 22, .tmp 24]) rfl ?_); at_builtin; refine Kd.R_append (Kd.int .u8) (w0 := w) w.heap.size rfl (.tmp 22) (.tmp 24) 22 5 (.int .u8 0) 1 rfl Try.underlying22 info5 rfl (by decide) (by omega) u5 x5_1 t308 [.int .u8 t308] (fun _ => True) (fun _ => False) rfl rfl ?aP (fun _ hk => hk.elim) ?aF ?aO ?aB ?aS ?aL ?_; (case aP => exact rfl); (case aB => exact (by repeat (first | (with_reducible first | exact HB.out | apply ac | apply ai | apply aj | refine ag ?_ GE306.out | refine ag ?_ GE307.out) | exact HB.out))); (case aF => exact (fun _ _ => trivial)); (case aO => exact (by (with_reducible repeat (first | apply Kd.R_alloc | apply Kd.R_drewN | apply Kd.R_drew)); exact HO_5.out)); (case aS => exact (aw (by repeat (first | (with_reducible first | exact HB.out | apply ac | apply ai | apply aj | refine ag ?_ GE306.out | refine ag ?_ GE307.out) | exact HB.out)))); (case aL => have := LMc7.out; omega); intro v311 w11 ho hb hg hat; rw [← Ny310.out] at ho; have n0_ := ab.mk (blk_grown (g := gb306) (o := .cells #[.int .u8 a0_0, .int .u8 a0_1, .int .u8 a0_2, .int .u16 a0_3, .bool a0_4, .bool a0_5] 34 (0, 0)) (by (with_reducible repeat (first | refine au ?_ _ | refine ap ?_ | refine ah ?_ _)); exact BK306.out) hg (Kd.R_ne HO_5.out BK306.out (by decide))); have n1_ := ab.mk (blk_grown (g := gb307) (o := .cells #[.int .u8 a1_0, .int .u8 a1_1, .int .u8 a1_2, .int .u16 a1_3, .bool a1_4, .bool a1_5] 34 (0, 0)) (by (with_reducible repeat (first | refine au ?_ _ | refine ap ?_ | refine ah ?_ _)); exact BK307.out) hg (Kd.R_ne HO_5.out BK307.out (by decide))); have n2_ := ab.mk (hb); have n3_ := ab.mk (ho); clear BK306; clear BK307; clear HB; clear HO_5; have BK306 := n0_; have BK307 := n1_; have HB := n2_; have HO312 := n3_; clear n0_ n1_ n2_ n3_; clear ho hb hg hat))
     go_roundg k1
     case measure => have := HK1.out; omega
     case rel => exact ⟨(y310), (wrap64 (x6_1 + 1)), (by first | rfl | (simp; done) | (simp [*]; done)), H', ⟨by have := HK1.out; omega⟩, ⟨by (with_reducible repeat (first | apply Kd.R_alloc | apply Kd.R_drewN | apply Kd.R_drew)); exact HO312.out⟩, ⟨by (with_reducible repeat (first | refine au ?_ _ | refine ap ?_ | refine ah ?_ _)); exact BK306.out⟩, ⟨by (with_reducible repeat (first | refine au ?_ _ | refine ap ?_ | refine ah ?_ _)); exact BK307.out⟩, ⟨by repeat (first | (with_reducible first | exact HB.out | apply ac | apply ai | apply aj | refine ag ?_ GE306.out | refine ag ?_ GE307.out) | exact HB.out)⟩⟩
    ·rw [if_neg c7] at H
     exact absurd H (by simp)
   ·rw [if_neg c5] at H
    have c5b0 : decide (x6_1 ≤ 12) = false := decide_eq_false c5
    clear c5
    have H' := ab.mk H
    clear H
    go_wp2
    go_loopg [5, 9] k1 (fun kq v5 v9 w' => ∃ (x5_2 : List Int) (x9_2 : Int), v9 = .int .i64 x9_2 ∧ ab (aA.l1 kq x5_2 x9_2 a1_0 a1_1 a1_2 a1_3 a1_4 a1_5 = some r) ∧ ab (kq ≤ k1) ∧ ab (Kd.R (Kd.int .u8) 5 w' w.heap.size (fun _ => True) v5 x5_2) ∧ ab (w'.heap[gb306]? = some (.cells #[.int .u8 a0_0, .int .u8 a0_1, .int .u8 a0_2, .int .u16 a0_3, .bool a0_4, .bool a0_5] 34 (0, 0))) ∧ ab (w'.heap[gb307]? = some (.cells #[.int .u8 a1_0, .int .u8 a1_1, .int .u8 a1_2, .int .u16 a1_3, .bool a1_4, .bool a1_5] 34 (0, 0))) ∧ ab (Below w.heap.size w w'))
    case atStart => exact ⟨(x5_1), (8), (by first | rfl | (simp; done) | (simp [*]; done)), H', ⟨Nat.le_refl _⟩, ⟨by (with_reducible repeat (first | apply Kd.R_alloc | apply Kd.R_drewN | apply Kd.R_drew)); exact HO_5.out⟩, ⟨by (with_reducible repeat (first | refine au ?_ _ | refine ap ?_ | refine ah ?_ _)); exact BK306.out⟩, ⟨by (with_reducible repeat (first | refine au ?_ _ | refine ap ?_ | refine ah ?_ _)); exact BK307.out⟩, ⟨by repeat (first | (with_reducible first | exact HB.out | apply ac | apply ai | apply aj | refine ag ?_ GE306.out | refine ag ?_ GE307.out) | exact HB.out)⟩⟩
    case round =>
     clear H'
     try clear p2
     try clear c3
     try clear c4
     try clear c5
     try clear c5b0
     try clear p6
     try clear c7
     try clear c8
     try clear hcz9_0
     try clear hcz9_1
     try clear hcz9_2
     try clear hcz9_3
     try clear hcz9_4
     try clear hcz9_5
     try clear hfz9_0
     try clear hfz9_1
     try clear hfz9_2
     try clear hfz9_3
     try clear hfz9_4
     try clear hfz9_5
     try clear p2
     obtain ⟨x5_2, x9_2, rfl, HA, HK2, HO_5, BK306, BK307, HB⟩ := hrel
     cases gk with
     | zero => exact absurd HA.out (by simp [aA.l1])
     | succ k2 =>
      have H := HA.out
      clear HA
      simp only [aA.l1] at H
      by_cases c12 : x9_2 ≤ 12
      ·rw [if_pos c12] at H
       have c12b0 : decide (x9_2 ≤ 12) = true := decide_eq_true c12
       clear c12
       replace H := Option.bind_eq_some_iff.mp H
       obtain ⟨⟨t313, t314⟩, A130, H⟩ := H
       replace H : (if x5_2.length < 140737488355328 then (aA.l1 k2 (x5_2 ++ [t313]) (wrap64 (x9_2 + 1)) a1_0 a1_1 a1_2 a1_3 a1_4 a1_5) else (none)) = some r := H
       have A13 := ab.mk A130
       clear A130
       by_cases c14 : x5_2.length < 140737488355328
       ·rw [if_pos c14] at H
        have LMc14 := ab.mk c14
        clear c14
        obtain ⟨y315, hy315⟩ : ∃ y_ : List Int, y_ = (x5_2 ++ [t313]) := ⟨_, rfl⟩
        replace H : (aA.l1 k2 y315 (wrap64 (x9_2 + 1)) a1_0 a1_1 a1_2 a1_3 a1_4 a1_5) = some r := by first | (rw [hy315]; with_reducible exact H) | (have H2_ := (Option.bind_some _ _).symm.trans H; rw [hy315]; with_reducible exact H2_) | (have H2_ := (Option.bind_some _ _).symm.trans H; with_reducible exact H2_) | with_reducible exact H | (rw [hy315]; exact H) | exact H
        have Ny315 := ab.mk hy315
        clear hy315
        have H' := ab.mk H
        clear H
        have hnb15 := NB307_306.out
        have hnc15 := NB306_307.out
        have hcz16_0 : wr.cell? ⟨gb307, 0, none⟩ = some (.int .u8 a1_0) := (aa BK307.out 0).trans rfl
        have hcz16_1 : wr.cell? ⟨gb307, 1, none⟩ = some (.int .u8 a1_1) := (aa BK307.out 1).trans rfl
        have hcz16_2 : wr.cell? ⟨gb307, 2, none⟩ = some (.int .u8 a1_2) := (aa BK307.out 2).trans rfl
        have hcz16_3 : wr.cell? ⟨gb307, 3, none⟩ = some (.int .u16 a1_3) := (aa BK307.out 3).trans rfl
        have hcz16_4 : wr.cell? ⟨gb307, 4, none⟩ = some (.bool a1_4) := (aa BK307.out 4).trans rfl
        have hcz16_5 : wr.cell? ⟨gb307, 5, none⟩ = some (.bool a1_5) := (aa BK307.out 5).trans rfl
        have hfz16_0 := ae BK307.out 0
        have hfz16_1 := ae BK307.out 1
        have hfz16_2 := ae BK307.out 2
        have hfz16_3 := ae BK307.out 3
        have hfz16_4 := ae BK307.out 4
        have hfz16_5 := ae BK307.out 5
        go_wp2_with (first | ((with_reducible refine cn (f := 39) rfl ?_); refine goesL_ (some 33) rfl rfl Try.func39 (by kernel_rfl) rfl #[.agg #[.int .u8 a1_0, .int .u8 a1_1, .int .u8 a1_2, .int .u16 a1_3, .bool a1_4, .bool a1_5], .int .i64 x9_2] rfl (by (try simp only [List.map_toArray, List.map_cons, List.map_nil]); first | done | rfl | (simp only [List.length_drop, List.length_take]; rfl)) ?_; (with_reducible refine (bl.calls a1_0 a1_1 a1_2 a1_3 a1_4 a1_5 x9_2 t313 t314 _ A13.out).mono ?_); rintro e w17 ⟨rfl, hb⟩; refine ⟨_, rfl, ?_⟩; have n0_ := ab.mk (Kd.R_below (by (with_reducible repeat (first | apply Kd.R_alloc | apply Kd.R_drewN | apply Kd.R_drew)); exact HO_5.out) hb); have n1_ := ab.mk (af (g := gb306) (o := .cells #[.int .u8 a0_0, .int .u8 a0_1, .int .u8 a0_2, .int .u16 a0_3, .bool a0_4, .bool a0_5] 34 (0, 0)) (by (with_reducible repeat (first | refine au ?_ _ | refine ap ?_ | refine ah ?_ _)); exact BK306.out) hb); have n2_ := ab.mk (af (g := gb307) (o := .cells #[.int .u8 a1_0, .int .u8 a1_1, .int .u8 a1_2, .int .u16 a1_3, .bool a1_4, .bool a1_5] 34 (0, 0)) (by (with_reducible repeat (first | refine au ?_ _ | refine ap ?_ | refine ah ?_ _)); exact BK307.out) hb); have n3_ := ab.mk (ak (by repeat (first | (with_reducible first | exact HB.out | apply ac | apply ai | apply aj | refine ag ?_ GE306.out | refine ag ?_ GE307.out) | exact HB.out)) hb); clear HO_5; clear BK306; clear BK307; clear HB; have HO_5 := n0_; have BK306 := n1_; have BK307 := n2_; have HB := n3_; clear n0_ n1_ n2_ n3_; (try clear hb); (try clear hb2); (try clear hk); (try clear hi)) | ((with_reducible refine bJ (b := .append) (xs := #[.tmp 36, .tmp 38]) rfl ?_); at_builtin; refine Kd.R_append (Kd.int .u8) (w0 := w) w.heap.size rfl (.tmp 36) (.tmp 38) 22 5 (.int .u8 0) 1 rfl Try.underlying22 info5 rfl (by decide) (by omega) u5 x5_2 t313 [.int .u8 t313] (fun _ => True) (fun _ => False) rfl rfl ?aP (fun _ hk => hk.elim) ?aF ?aO ?aB ?aS ?aL ?_; (case aP => exact rfl); (case aB => exact (by repeat (first | (with_reducible first | exact HB.out | apply ac | apply ai | apply aj | refine ag ?_ GE306.out | refine ag ?_ GE307.out) | exact HB.out))); (case aF => exact (fun _ _ => trivial)); (case aO => exact (by (with_reducible repeat (first | apply Kd.R_alloc | apply Kd.R_drewN | apply Kd.R_drew)); exact HO_5.out)); (case aS => exact (aw (by repeat (first | (with_reducible first | exact HB.out | apply ac | apply ai | apply aj | refine ag ?_ GE306.out | refine ag ?_ GE307.out) | exact HB.out)))); (case aL => have := LMc14.out; omega); intro v316 w18 ho hb hg hat; rw [← Ny315.out] at ho; have n0_ := ab.mk (blk_grown (g := gb306) (o := .cells #[.int .u8 a0_0, .int .u8 a0_1, .int .u8 a0_2, .int .u16 a0_3, .bool a0_4, .bool a0_5] 34 (0, 0)) (by (with_reducible repeat (first | refine au ?_ _ | refine ap ?_ | refine ah ?_ _)); exact BK306.out) hg (Kd.R_ne HO_5.out BK306.out (by decide))); have n1_ := ab.mk (blk_grown (g := gb307) (o := .cells #[.int .u8 a1_0, .int .u8 a1_1, .int .u8 a1_2, .int .u16 a1_3, .bool a1_4, .bool a1_5] 34 (0, 0)) (by (with_reducible repeat (first | refine au ?_ _ | refine ap ?_ | refine ah ?_ _)); exact BK307.out) hg (Kd.R_ne HO_5.out BK307.out (by decide))); have n2_ := ab.mk (hb); have n3_ := ab.mk (ho); clear BK306; clear BK307; clear HB; clear HO_5; have BK306 := n0_; have BK307 := n1_; have HB := n2_; have HO317 := n3_; clear n0_ n1_ n2_ n3_; clear ho hb hg hat))
        go_roundg k2
        case measure => have := HK1.out; have := HK2.out; omega
        case rel => exact ⟨(y315), (wrap64 (x9_2 + 1)), (by first | rfl | (simp; done) | (simp [*]; done)), H', ⟨by have := HK1.out; have := HK2.out; omega⟩, ⟨by (with_reducible repeat (first | apply Kd.R_alloc | apply Kd.R_drewN | apply Kd.R_drew)); exact HO317.out⟩, ⟨by (with_reducible repeat (first | refine au ?_ _ | refine ap ?_ | refine ah ?_ _)); exact BK306.out⟩, ⟨by (with_reducible repeat (first | refine au ?_ _ | refine ap ?_ | refine ah ?_ _)); exact BK307.out⟩, ⟨by repeat (first | (with_reducible first | exact HB.out | apply ac | apply ai | apply aj | refine ag ?_ GE306.out | refine ag ?_ GE307.out) | exact HB.out)⟩⟩
       ·rw [if_neg c14] at H
        exact absurd H (by simp)
      ·rw [if_neg c12] at H
       have c12b0 : decide (x9_2 ≤ 12) = false := decide_eq_false c12
       clear c12
       obtain rfl := Option.some.inj H
       go_wp2
       go_ret
       exact ⟨_, by first | rfl | (simp [aE, aG] <;> rfl) | (simp [*, aE, aG] <;> rfl), by (with_reducible repeat (first | apply Kd.R_alloc | apply Kd.R_drewN | apply Kd.R_drew)); exact HO_5.out, by repeat (first | (with_reducible first | exact HB.out | apply ac | apply ai | apply aj | refine ag ?_ GE306.out | refine ag ?_ GE307.out) | exact HB.out)⟩
end Go.Proofs.Ytmjjojbedllmgaa.G
section
namespace Go.Proofs.Ytmjjojbedllmgaa.Pure
open Go.Proofs.Ytmjjojbedllmgaa.Hand
theorem bytes_l1 (x : List Int) (b : C) (hx : x.length = 5) (hb : wide b) : aA.l1 6 x 8 b.1 b.2.1 b.2.2.1 b.2.2.2.1 b.2.2.2.2.1 b.2.2.2.2.2 = some (x ++ five b) := by
 simp only [aA.l1]
 rw [if_pos (by decide), cq b hb 8]
 simp only [Option.bind_some]
 rw [if_pos (by simp [hx]), show wrap64 (8 + 1) = 9 from by kernel_rfl]
 rw [if_pos (by decide), cq b hb 9]
 simp only [Option.bind_some]
 rw [if_pos (by simp [hx]), show wrap64 (9 + 1) = 10 from by kernel_rfl]
 rw [if_pos (by decide), cq b hb 10]
 simp only [Option.bind_some]
 rw [if_pos (by simp [hx]), show wrap64 (10 + 1) = 11 from by kernel_rfl]
 rw [if_pos (by decide), cq b hb 11]
 simp only [Option.bind_some]
 rw [if_pos (by simp [hx]), show wrap64 (11 + 1) = 12 from by kernel_rfl]
 rw [if_pos (by decide), cq b hb 12]
 simp only [Option.bind_some]
 rw [if_pos (by simp [hx]), show wrap64 (12 + 1) = 13 from by kernel_rfl]
 rw [if_neg (by decide)]
 simp only [List.append_assoc, five]
 rfl
theorem bytes_l0 (c b : C) (hc : wide c) (hb : wide b) : aA.l0 12 [] 8 c.1 c.2.1 c.2.2.1 c.2.2.2.1 c.2.2.2.2.1 c.2.2.2.2.2 b.1 b.2.1 b.2.2.1 b.2.2.2.1 b.2.2.2.2.1 b.2.2.2.2.2 = some (five c ++ five b) := by
 simp only [aA.l0]
 rw [if_pos (by decide), cq c hc 8]
 simp only [Option.bind_some]
 rw [if_pos (by simp), show wrap64 (8 + 1) = 9 from by kernel_rfl]
 rw [if_pos (by decide), cq c hc 9]
 simp only [Option.bind_some]
 rw [if_pos (by simp), show wrap64 (9 + 1) = 10 from by kernel_rfl]
 rw [if_pos (by decide), cq c hc 10]
 simp only [Option.bind_some]
 rw [if_pos (by simp), show wrap64 (10 + 1) = 11 from by kernel_rfl]
 rw [if_pos (by decide), cq c hc 11]
 simp only [Option.bind_some]
 rw [if_pos (by simp), show wrap64 (11 + 1) = 12 from by kernel_rfl]
 rw [if_pos (by decide), cq c hc 12]
 simp only [Option.bind_some]
 rw [if_pos (by simp), show wrap64 (12 + 1) = 13 from by kernel_rfl]
 rw [if_neg (by decide)]
 exact bytes_l1 _ b (by simp) hb
theorem one_is (a b c d e : Int) (ha : 0 ≤ a ∧ a ≤ 255) (hb : 0 ≤ b ∧ b ≤ 255) (hc : 0 ≤ c ∧ c ≤ 255) (hd : 0 ≤ d ∧ d ≤ 255) (he : 0 ≤ e ∧ e ≤ 255) :
  aN.f [a, b, c, d, e] = if a ≤ 63 ∧ b ≤ 63 ∧ c ≤ 31 ∧ e % 64 ≤ 1 then some ((of5 a b c d e).1, (of5 a b c d e).2.1, (of5 a b c d e).2.2.1, (of5 a b c d e).2.2.2.1, (of5 a b c d e).2.2.2.2.1, (of5 a b c d e).2.2.2.2.2, true) else some (0, 0, 0, 0, false, false, false) := by
 unfold aN.f
 rw [if_pos (show [a, b, c, d, e].length = 5 from rfl), show rd [a, b, c, d, e] 0 = a from rfl, show rd [a, b, c, d, e] 1 = b from rfl, show rd [a, b, c, d, e] 2 = c from rfl, show rd [a, b, c, d, e] 3 = d from rfl, show rd [a, b, c, d, e] 4 = e from rfl]
 rw [Int.tmod_eq_emod_of_nonneg he.1, Int.tmod_eq_emod_of_nonneg he.1, Int.tdiv_eq_ediv_of_nonneg he.1]
 rw [w16 (x := e % 2) (by omega), w16 (x := e % 2 * 256) (by omega), w16 (x := d) (by omega), w16 (x := e % 2 * 256 + d) (by omega)]
 by_cases c0 : a > 63
 ·rw [if_pos c0, if_neg (by omega)]
 rw [if_neg c0]
 by_cases c1 : b > 63
 ·rw [if_pos c1, if_neg (by omega)]
 rw [if_neg c1]
 by_cases c2 : c > 31
 ·rw [if_pos c2, if_neg (by omega)]
 rw [if_neg c2]
 by_cases c3 : e % 64 > 1
 ·rw [if_pos c3, if_neg (by omega)]
 rw [if_neg c3, if_pos (by omega)]
 unfold of5
 dsimp only
 rw [show a % 64 = a by omega, show b % 64 = b by omega, show c % 32 = c by omega, show e / 64 % 256 % 2 = e / 64 % 2 by omega, show e % 2 * 256 + d = d + e % 2 * 256 by omega]
theorem of_ref (l : List Int) (hb : Bytes l) (hl : l.length = 10) : bO.f l = some ((ofX l).s, (ofX l).m, (ofX l).h, (ofX l).d, (ofX l).ht, (ofX l).cy, (ofY l).s, (ofY l).m, (ofY l).h, (ofY l).d, (ofY l).ht, (ofY l).cy, ofE l) := by
 rw [← clock_of_is l]
 match l, hl with
 | [b0, b1, b2, b3, b4, b5, b6, b7, b8, b9], _ =>
  have p0 := hb b0 (by simp)
  have p1 := hb b1 (by simp)
  have p2 := hb b2 (by simp)
  have p3 := hb b3 (by simp)
  have p4 := hb b4 (by simp)
  have p5 := hb b5 (by simp)
  have p6 := hb b6 (by simp)
  have p7 := hb b7 (by simp)
  have p8 := hb b8 (by simp)
  have p9 := hb b9 (by simp)
  rw [of_prog b0 b1 b2 b3 b4 b5 b6 b7 b8 b9 p0 p1 p2 p3 p4 p5 p6 p7 p8 p9]
  unfold bO.f
  rw [if_pos (by rfl)]
  rw [show ([b0, b1, b2, b3, b4, b5, b6, b7, b8, b9] : List Int).take 5 = [b0, b1, b2, b3, b4] from rfl, show ([b0, b1, b2, b3, b4, b5, b6, b7, b8, b9] : List Int).drop 5 = [b5, b6, b7, b8, b9] from rfl]
  rw [one_is b0 b1 b2 b3 b4 p0 p1 p2 p3 p4, one_is b5 b6 b7 b8 b9 p5 p6 p7 p8 p9]
  by_cases c1 : b0 ≤ 63 ∧ b1 ≤ 63 ∧ b2 ≤ 31 ∧ b4 % 64 ≤ 1
  ·by_cases c2 : b5 ≤ 63 ∧ b6 ≤ 63 ∧ b7 ≤ 31 ∧ b9 % 64 ≤ 1
   ·rw [if_pos c1, if_pos c2, if_pos ⟨c1, c2⟩]; rfl
   ·rw [if_pos c1, if_neg c2, if_neg (fun q => c2 q.2)]; rfl
  ·by_cases c2 : b5 ≤ 63 ∧ b6 ≤ 63 ∧ b7 ≤ 31 ∧ b9 % 64 ≤ 1
   ·rw [if_neg c1, if_pos c2, if_neg (fun q => c1 q.1)]; rfl
   ·rw [if_neg c1, if_neg c2, if_neg (fun q => c1 q.1)]; rfl
end Go.Proofs.Ytmjjojbedllmgaa.Pure
namespace Go.Proofs.Ytmjjojbedllmgaa.Hand
open Go.Proofs.Ytmjjojbedllmgaa.Pure
theorem ck_read (c : Ck) (h : okC (ct c)) (n : Int) : c.read n = (rdC (ct c) n).1 := by
 have q := cf (ct c) h.wide n
 rw [nm_of h] at q
 have q2 : aK.f c.s c.m c.h c.d c.ht c.cy n = some (rdC (ct c) n) := q
 rw [Ck.read, q2]
 rfl
theorem rclk_read (c : Ck) (h : okC (ct c)) (n : Int) : Puts 39 #[.agg #[.int .u8 c.s, .int .u8 c.m, .int .u8 c.h, .int .u16 c.d, .bool c.ht, .bool c.cy], .int .i64 n] (.tuple #[.int .u8 (c.read n), .int .i64 (rdC (ct c) n).2]) := by
 intro w
 rw [ck_read c h]
 have q := cq (ct c) h.wide n
 rw [nm_of h] at q
 exact bl.calls _ _ _ _ _ _ n (rdC (ct c) n).1 (rdC (ct c) n).2 w q
theorem on_put {v l p : Int} (hv : 0 ≤ v ∧ v < p) (hp : p = 64 ∨ p = 32) : Puts 75 #[.int .u8 v, .int .u8 l, .int .u8 p] (.int .u8 (if v = l then 0 else (v + 1) % p)) := fun w =>
 (bY.calls v l p _ w (on_ref v l p hv hp)).mono (by rintro e w' ⟨h1, n, rfl⟩; exact ⟨h1, ai (Below.refl _ _) n⟩)
theorem rt_ct (c : Ck) (h : okC (ct c)) : rtR c.s c.m c.h c.d (if c.s = 59 then 0 else (c.s + 1) % 64) (if c.m = 59 then 0 else (c.m + 1) % 64) (if c.h = 23 then 0 else (c.h + 1) % 32) c.ht c.cy (c.s == 59) (c.m == 59) (c.h == 23) (c.d == 511) = #[.int .u8 c.tick.s, .int .u8 c.tick.m, .int .u8 c.tick.h, .int .u16 c.tick.d, .bool c.tick.ht, .bool c.tick.cy] := by
 have e := tick_ct c h
 generalize c.tick = t at e
 obtain ⟨s, m, hh, d, ht, cy⟩ := c
 obtain ⟨s', m', hh', d', ht', cy'⟩ := t
 have b4 : 0 ≤ d ∧ d ≤ 511 := h.2.2.2
 clear h
 have w16 : ¬ d = 511 → IntKind.u16.wrap (d + 1) = (d + 1) % 512 := fun q => by rw [IntKind.wrap_u16]; omega
 unfold ct tk at e
 unfold rtR
 dsimp only at e ⊢
 cases ht with
 | true =>
  simp at e ⊢
  obtain ⟨rfl, rfl, rfl, rfl, rfl, rfl⟩ := e
  simp
 | false =>
  by_cases c1 : s = 59 <;> by_cases c2 : m = 59 <;> by_cases c3 : hh = 23 <;> by_cases c4 : d = 511 <;> simp [c1, c2, c3, c4] at e ⊢ <;> (obtain ⟨rfl, rfl, rfl, rfl, rfl, rfl⟩ := e; simp_all)
theorem rclk_tick (c : Ck) (h : okC (ct c)) : Puts 47 #[.agg #[.int .u8 c.s, .int .u8 c.m, .int .u8 c.h, .int .u16 c.d, .bool c.ht, .bool c.cy]] (.agg #[.int .u8 c.tick.s, .int .u8 c.tick.m, .int .u8 c.tick.h, .int .u16 c.tick.d, .bool c.tick.ht, .bool c.tick.cy]) := by
 have n := norm_ref (ct c) h.wide
 rw [nm_of h] at n
 obtain ⟨b1, b2, b3, b4⟩ := id h
 rw [← rt_ct c h]
 exact rt_go c.s c.m c.h c.d _ _ _ c.ht c.cy _ _ _ _ rfl rfl rfl rfl (fun w => bi.calls _ _ _ _ _ _ c.s c.m c.h c.d c.ht c.cy w n) (on_put ⟨b1.1, Int.lt_of_le_of_lt b1.2 (by decide)⟩ (.inl rfl)) (on_put ⟨b2.1, Int.lt_of_le_of_lt b2.2 (by decide)⟩ (.inl rfl)) (on_put ⟨b3.1, Int.lt_of_le_of_lt b3.2 (by decide)⟩ (.inr rfl))
theorem rclk_write (c : Ck) (h : okC (ct c)) (n v : Int) (hv : 0 ≤ v ∧ v ≤ 255) : Puts 45 #[.agg #[.int .u8 c.s, .int .u8 c.m, .int .u8 c.h, .int .u16 c.d, .bool c.ht, .bool c.cy], .int .i64 n, .int .u8 v] (.tuple #[.agg #[.int .u8 (c.write n v).s, .int .u8 (c.write n v).m, .int .u8 (c.write n v).h, .int .u16 (c.write n v).d, .bool (c.write n v).ht, .bool (c.write n v).cy], .int .i64 (wrC (ct c) n v).2]) := by
 intro w
 have q := write_ref (ct c) h.wide n v hv
 rw [nm_of h] at q
 have e := write_ct c h n v hv
 refine bD.calls _ _ _ _ _ _ n v (c.write n v).s (c.write n v).m (c.write n v).h (c.write n v).d (c.write n v).ht (c.write n v).cy (wrC (ct c) n v).2 w ?_
 refine Eq.trans q ?_
 unfold fl2
 rw [← e]
 rfl
theorem rclk_bytes (s : Ct) (h : Nm s) : PutsR 49 #[.agg #[.int .u8 s.lv.s, .int .u8 s.lv.m, .int .u8 s.lv.h, .int .u16 s.lv.d, .bool s.lv.ht, .bool s.lv.cy], .agg #[.int .u8 s.hd.s, .int .u8 s.hd.m, .int .u8 s.hd.h, .int .u16 s.hd.d, .bool s.hd.ht, .bool s.hd.cy]] s.bytesL := by
 intro w
 rw [bytes_ct s h]
 exact aA.calls 12 _ _ _ _ _ _ _ _ _ _ _ _ _ w (bytes_l0 (ct s.lv) (ct s.hd) h.lv.wide h.hd.wide)
theorem rclk_of (l : List Int) (hb : Bytes l) (hl : l.length = 10) (A : Option Addr) (c : Nat) (w : World) (hr : Kd.C (Kd.int .u8) w A l.length l) (hc : l.length ≤ c) :
  Calls Try.prog 51 #[.slice A l.length c] w fun e w' => e = .returned (.tuple #[.agg #[.int .u8 (ofX l).s, .int .u8 (ofX l).m, .int .u8 (ofX l).h, .int .u16 (ofX l).d, .bool (ofX l).ht, .bool (ofX l).cy], .agg #[.int .u8 (ofY l).s, .int .u8 (ofY l).m, .int .u8 (ofY l).h, .int .u16 (ofY l).d, .bool (ofY l).ht, .bool (ofY l).cy], .int .i64 (ofE l)]) ∧ Below w.heap.size w w' :=
 bO.calls A c l _ _ _ _ _ _ _ _ _ _ _ _ _ w hr hc (of_ref l hb hl)
end Go.Proofs.Ytmjjojbedllmgaa.Hand
end
