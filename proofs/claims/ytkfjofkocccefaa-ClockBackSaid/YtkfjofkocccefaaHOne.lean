/- The reference's one by hand: the clock of five bytes. -/
import Derived.Test.YtkfjofkocccefaaG0
import Derived.Deep.MidRow
import Derived.StillTailTactics
import Derived.Handy
namespace Go.Proofs.Ytkfjofkocccefaa.Hand
open Go.RowKit
open Go.Proofs.Ytkfjofkocccefaa.G
open Go.Proofs.YtkfjofkocccefaaW.PrintWords Go.Proofs.YtkfjofkocccefaaW.PrintLast Go.Proofs.YtkfjofkocccefaaW.PrintMore
set_option linter.unusedVariables false
set_option linter.unusedSimpArgs false
set_option maxRecDepth 100000 in
set_option maxHeartbeats 8000000 in
theorem one0 (A : Option Addr) (c : Nat) (l : List Int) (hl : l.length = 5) (w : World) (hr : Kd.C (Kd.int .u8) w A l.length l)  (g0 : rd l 0 > 63) :
    Calls Try.prog 30 #[.slice A l.length c] w fun e' w' => e' = .returned (.tuple #[.agg #[.int .u8 0, .int .u8 0, .int .u8 0, .int .u16 0, .bool false, .bool false], .bool false]) ∧ Below w.heap.size w w' := by
  rw [hl] at hr ⊢
  obtain ⟨ad, ea, k0⟩ := Kd.at_int hr 0 (by omega) (by omega)
  subst ea
  have m0 : ∀ o, (w.alloc o).cell? ad = some (.int .u8 (rd l 0)) := fun o => by
    obtain ⟨ad', ea, k⟩ := Kd.at_int (Kd.C_alloc hr o) 0 (by omega) (by omega)
    obtain rfl := Option.some.inj ea
    simpa [Addr.add] using k
  have p0 : ∀ o o', ((w.alloc o).alloc o').cell? ad = some (.int .u8 (rd l 0)) := fun o o' => by
    obtain ⟨ad', ea, k⟩ := Kd.at_int (Kd.C_alloc (Kd.C_alloc hr o) o') 0 (by omega) (by omega)
    obtain rfl := Option.some.inj ea
    simpa [Addr.add] using k
  replace k0 : w.cell? ad = some (.int .u8 (rd l 0)) := by simpa [Addr.add] using k0
  obtain ⟨ad1, ea, k1⟩ := Kd.at_int hr 1 (by omega) (by omega)
  obtain rfl := Option.some.inj ea
  clear ea
  have m1 : ∀ o, (w.alloc o).cell? ⟨ad.block, ad.off + 1, none⟩ = some (.int .u8 (rd l 1)) := fun o => by
    obtain ⟨ad', ea, k⟩ := Kd.at_int (Kd.C_alloc hr o) 1 (by omega) (by omega)
    obtain rfl := Option.some.inj ea
    simpa [Addr.add] using k
  have p1 : ∀ o o', ((w.alloc o).alloc o').cell? ⟨ad.block, ad.off + 1, none⟩ = some (.int .u8 (rd l 1)) := fun o o' => by
    obtain ⟨ad', ea, k⟩ := Kd.at_int (Kd.C_alloc (Kd.C_alloc hr o) o') 1 (by omega) (by omega)
    obtain rfl := Option.some.inj ea
    simpa [Addr.add] using k
  replace k1 : w.cell? ⟨ad.block, ad.off + 1, none⟩ = some (.int .u8 (rd l 1)) := by simpa [Addr.add] using k1
  obtain ⟨ad2, ea, k2⟩ := Kd.at_int hr 2 (by omega) (by omega)
  obtain rfl := Option.some.inj ea
  clear ea
  have m2 : ∀ o, (w.alloc o).cell? ⟨ad.block, ad.off + 2, none⟩ = some (.int .u8 (rd l 2)) := fun o => by
    obtain ⟨ad', ea, k⟩ := Kd.at_int (Kd.C_alloc hr o) 2 (by omega) (by omega)
    obtain rfl := Option.some.inj ea
    simpa [Addr.add] using k
  have p2 : ∀ o o', ((w.alloc o).alloc o').cell? ⟨ad.block, ad.off + 2, none⟩ = some (.int .u8 (rd l 2)) := fun o o' => by
    obtain ⟨ad', ea, k⟩ := Kd.at_int (Kd.C_alloc (Kd.C_alloc hr o) o') 2 (by omega) (by omega)
    obtain rfl := Option.some.inj ea
    simpa [Addr.add] using k
  replace k2 : w.cell? ⟨ad.block, ad.off + 2, none⟩ = some (.int .u8 (rd l 2)) := by simpa [Addr.add] using k2
  obtain ⟨ad3, ea, k3⟩ := Kd.at_int hr 3 (by omega) (by omega)
  obtain rfl := Option.some.inj ea
  clear ea
  have m3 : ∀ o, (w.alloc o).cell? ⟨ad.block, ad.off + 3, none⟩ = some (.int .u8 (rd l 3)) := fun o => by
    obtain ⟨ad', ea, k⟩ := Kd.at_int (Kd.C_alloc hr o) 3 (by omega) (by omega)
    obtain rfl := Option.some.inj ea
    simpa [Addr.add] using k
  have p3 : ∀ o o', ((w.alloc o).alloc o').cell? ⟨ad.block, ad.off + 3, none⟩ = some (.int .u8 (rd l 3)) := fun o o' => by
    obtain ⟨ad', ea, k⟩ := Kd.at_int (Kd.C_alloc (Kd.C_alloc hr o) o') 3 (by omega) (by omega)
    obtain rfl := Option.some.inj ea
    simpa [Addr.add] using k
  replace k3 : w.cell? ⟨ad.block, ad.off + 3, none⟩ = some (.int .u8 (rd l 3)) := by simpa [Addr.add] using k3
  obtain ⟨ad4, ea, k4⟩ := Kd.at_int hr 4 (by omega) (by omega)
  obtain rfl := Option.some.inj ea
  clear ea
  have m4 : ∀ o, (w.alloc o).cell? ⟨ad.block, ad.off + 4, none⟩ = some (.int .u8 (rd l 4)) := fun o => by
    obtain ⟨ad', ea, k⟩ := Kd.at_int (Kd.C_alloc hr o) 4 (by omega) (by omega)
    obtain rfl := Option.some.inj ea
    simpa [Addr.add] using k
  have p4 : ∀ o o', ((w.alloc o).alloc o').cell? ⟨ad.block, ad.off + 4, none⟩ = some (.int .u8 (rd l 4)) := fun o o' => by
    obtain ⟨ad', ea, k⟩ := Kd.at_int (Kd.C_alloc (Kd.C_alloc hr o) o') 4 (by omega) (by omega)
    obtain rfl := Option.some.inj ea
    simpa [Addr.add] using k
  replace k4 : w.cell? ⟨ad.block, ad.off + 4, none⟩ = some (.int .u8 (rd l 4)) := by simpa [Addr.add] using k4
  clear hr
  go_enter Try.func30, Try.ntmps30
  go_wp2
  refine bodyPost_ret (v := .tuple #[.agg #[.int .u8 0, .int .u8 0, .int .u8 0, .int .u16 0, .bool false, .bool false], .bool false]) (by simp [results, Try.results30, go_sem]) rfl ⟨rfl, by go_grown⟩
set_option maxRecDepth 100000 in
set_option maxHeartbeats 8000000 in
theorem one1 (A : Option Addr) (c : Nat) (l : List Int) (hl : l.length = 5) (w : World) (hr : Kd.C (Kd.int .u8) w A l.length l) (g0 : ¬ rd l 0 > 63) (g1 : rd l 1 > 63) :
    Calls Try.prog 30 #[.slice A l.length c] w fun e' w' => e' = .returned (.tuple #[.agg #[.int .u8 0, .int .u8 0, .int .u8 0, .int .u16 0, .bool false, .bool false], .bool false]) ∧ Below w.heap.size w w' := by
  rw [hl] at hr ⊢
  obtain ⟨ad, ea, k0⟩ := Kd.at_int hr 0 (by omega) (by omega)
  subst ea
  have m0 : ∀ o, (w.alloc o).cell? ad = some (.int .u8 (rd l 0)) := fun o => by
    obtain ⟨ad', ea, k⟩ := Kd.at_int (Kd.C_alloc hr o) 0 (by omega) (by omega)
    obtain rfl := Option.some.inj ea
    simpa [Addr.add] using k
  have p0 : ∀ o o', ((w.alloc o).alloc o').cell? ad = some (.int .u8 (rd l 0)) := fun o o' => by
    obtain ⟨ad', ea, k⟩ := Kd.at_int (Kd.C_alloc (Kd.C_alloc hr o) o') 0 (by omega) (by omega)
    obtain rfl := Option.some.inj ea
    simpa [Addr.add] using k
  replace k0 : w.cell? ad = some (.int .u8 (rd l 0)) := by simpa [Addr.add] using k0
  obtain ⟨ad1, ea, k1⟩ := Kd.at_int hr 1 (by omega) (by omega)
  obtain rfl := Option.some.inj ea
  clear ea
  have m1 : ∀ o, (w.alloc o).cell? ⟨ad.block, ad.off + 1, none⟩ = some (.int .u8 (rd l 1)) := fun o => by
    obtain ⟨ad', ea, k⟩ := Kd.at_int (Kd.C_alloc hr o) 1 (by omega) (by omega)
    obtain rfl := Option.some.inj ea
    simpa [Addr.add] using k
  have p1 : ∀ o o', ((w.alloc o).alloc o').cell? ⟨ad.block, ad.off + 1, none⟩ = some (.int .u8 (rd l 1)) := fun o o' => by
    obtain ⟨ad', ea, k⟩ := Kd.at_int (Kd.C_alloc (Kd.C_alloc hr o) o') 1 (by omega) (by omega)
    obtain rfl := Option.some.inj ea
    simpa [Addr.add] using k
  replace k1 : w.cell? ⟨ad.block, ad.off + 1, none⟩ = some (.int .u8 (rd l 1)) := by simpa [Addr.add] using k1
  obtain ⟨ad2, ea, k2⟩ := Kd.at_int hr 2 (by omega) (by omega)
  obtain rfl := Option.some.inj ea
  clear ea
  have m2 : ∀ o, (w.alloc o).cell? ⟨ad.block, ad.off + 2, none⟩ = some (.int .u8 (rd l 2)) := fun o => by
    obtain ⟨ad', ea, k⟩ := Kd.at_int (Kd.C_alloc hr o) 2 (by omega) (by omega)
    obtain rfl := Option.some.inj ea
    simpa [Addr.add] using k
  have p2 : ∀ o o', ((w.alloc o).alloc o').cell? ⟨ad.block, ad.off + 2, none⟩ = some (.int .u8 (rd l 2)) := fun o o' => by
    obtain ⟨ad', ea, k⟩ := Kd.at_int (Kd.C_alloc (Kd.C_alloc hr o) o') 2 (by omega) (by omega)
    obtain rfl := Option.some.inj ea
    simpa [Addr.add] using k
  replace k2 : w.cell? ⟨ad.block, ad.off + 2, none⟩ = some (.int .u8 (rd l 2)) := by simpa [Addr.add] using k2
  obtain ⟨ad3, ea, k3⟩ := Kd.at_int hr 3 (by omega) (by omega)
  obtain rfl := Option.some.inj ea
  clear ea
  have m3 : ∀ o, (w.alloc o).cell? ⟨ad.block, ad.off + 3, none⟩ = some (.int .u8 (rd l 3)) := fun o => by
    obtain ⟨ad', ea, k⟩ := Kd.at_int (Kd.C_alloc hr o) 3 (by omega) (by omega)
    obtain rfl := Option.some.inj ea
    simpa [Addr.add] using k
  have p3 : ∀ o o', ((w.alloc o).alloc o').cell? ⟨ad.block, ad.off + 3, none⟩ = some (.int .u8 (rd l 3)) := fun o o' => by
    obtain ⟨ad', ea, k⟩ := Kd.at_int (Kd.C_alloc (Kd.C_alloc hr o) o') 3 (by omega) (by omega)
    obtain rfl := Option.some.inj ea
    simpa [Addr.add] using k
  replace k3 : w.cell? ⟨ad.block, ad.off + 3, none⟩ = some (.int .u8 (rd l 3)) := by simpa [Addr.add] using k3
  obtain ⟨ad4, ea, k4⟩ := Kd.at_int hr 4 (by omega) (by omega)
  obtain rfl := Option.some.inj ea
  clear ea
  have m4 : ∀ o, (w.alloc o).cell? ⟨ad.block, ad.off + 4, none⟩ = some (.int .u8 (rd l 4)) := fun o => by
    obtain ⟨ad', ea, k⟩ := Kd.at_int (Kd.C_alloc hr o) 4 (by omega) (by omega)
    obtain rfl := Option.some.inj ea
    simpa [Addr.add] using k
  have p4 : ∀ o o', ((w.alloc o).alloc o').cell? ⟨ad.block, ad.off + 4, none⟩ = some (.int .u8 (rd l 4)) := fun o o' => by
    obtain ⟨ad', ea, k⟩ := Kd.at_int (Kd.C_alloc (Kd.C_alloc hr o) o') 4 (by omega) (by omega)
    obtain rfl := Option.some.inj ea
    simpa [Addr.add] using k
  replace k4 : w.cell? ⟨ad.block, ad.off + 4, none⟩ = some (.int .u8 (rd l 4)) := by simpa [Addr.add] using k4
  clear hr
  go_enter Try.func30, Try.ntmps30
  go_wp2
  refine bodyPost_ret (v := .tuple #[.agg #[.int .u8 0, .int .u8 0, .int .u8 0, .int .u16 0, .bool false, .bool false], .bool false]) (by simp [results, Try.results30, go_sem]) rfl ⟨rfl, by go_grown⟩
set_option maxRecDepth 100000 in
set_option maxHeartbeats 8000000 in
theorem one2 (A : Option Addr) (c : Nat) (l : List Int) (hl : l.length = 5) (w : World) (hr : Kd.C (Kd.int .u8) w A l.length l) (g0 : ¬ rd l 0 > 63) (g1 : ¬ rd l 1 > 63) (g2 : rd l 2 > 31) :
    Calls Try.prog 30 #[.slice A l.length c] w fun e' w' => e' = .returned (.tuple #[.agg #[.int .u8 0, .int .u8 0, .int .u8 0, .int .u16 0, .bool false, .bool false], .bool false]) ∧ Below w.heap.size w w' := by
  rw [hl] at hr ⊢
  obtain ⟨ad, ea, k0⟩ := Kd.at_int hr 0 (by omega) (by omega)
  subst ea
  have m0 : ∀ o, (w.alloc o).cell? ad = some (.int .u8 (rd l 0)) := fun o => by
    obtain ⟨ad', ea, k⟩ := Kd.at_int (Kd.C_alloc hr o) 0 (by omega) (by omega)
    obtain rfl := Option.some.inj ea
    simpa [Addr.add] using k
  have p0 : ∀ o o', ((w.alloc o).alloc o').cell? ad = some (.int .u8 (rd l 0)) := fun o o' => by
    obtain ⟨ad', ea, k⟩ := Kd.at_int (Kd.C_alloc (Kd.C_alloc hr o) o') 0 (by omega) (by omega)
    obtain rfl := Option.some.inj ea
    simpa [Addr.add] using k
  replace k0 : w.cell? ad = some (.int .u8 (rd l 0)) := by simpa [Addr.add] using k0
  obtain ⟨ad1, ea, k1⟩ := Kd.at_int hr 1 (by omega) (by omega)
  obtain rfl := Option.some.inj ea
  clear ea
  have m1 : ∀ o, (w.alloc o).cell? ⟨ad.block, ad.off + 1, none⟩ = some (.int .u8 (rd l 1)) := fun o => by
    obtain ⟨ad', ea, k⟩ := Kd.at_int (Kd.C_alloc hr o) 1 (by omega) (by omega)
    obtain rfl := Option.some.inj ea
    simpa [Addr.add] using k
  have p1 : ∀ o o', ((w.alloc o).alloc o').cell? ⟨ad.block, ad.off + 1, none⟩ = some (.int .u8 (rd l 1)) := fun o o' => by
    obtain ⟨ad', ea, k⟩ := Kd.at_int (Kd.C_alloc (Kd.C_alloc hr o) o') 1 (by omega) (by omega)
    obtain rfl := Option.some.inj ea
    simpa [Addr.add] using k
  replace k1 : w.cell? ⟨ad.block, ad.off + 1, none⟩ = some (.int .u8 (rd l 1)) := by simpa [Addr.add] using k1
  obtain ⟨ad2, ea, k2⟩ := Kd.at_int hr 2 (by omega) (by omega)
  obtain rfl := Option.some.inj ea
  clear ea
  have m2 : ∀ o, (w.alloc o).cell? ⟨ad.block, ad.off + 2, none⟩ = some (.int .u8 (rd l 2)) := fun o => by
    obtain ⟨ad', ea, k⟩ := Kd.at_int (Kd.C_alloc hr o) 2 (by omega) (by omega)
    obtain rfl := Option.some.inj ea
    simpa [Addr.add] using k
  have p2 : ∀ o o', ((w.alloc o).alloc o').cell? ⟨ad.block, ad.off + 2, none⟩ = some (.int .u8 (rd l 2)) := fun o o' => by
    obtain ⟨ad', ea, k⟩ := Kd.at_int (Kd.C_alloc (Kd.C_alloc hr o) o') 2 (by omega) (by omega)
    obtain rfl := Option.some.inj ea
    simpa [Addr.add] using k
  replace k2 : w.cell? ⟨ad.block, ad.off + 2, none⟩ = some (.int .u8 (rd l 2)) := by simpa [Addr.add] using k2
  obtain ⟨ad3, ea, k3⟩ := Kd.at_int hr 3 (by omega) (by omega)
  obtain rfl := Option.some.inj ea
  clear ea
  have m3 : ∀ o, (w.alloc o).cell? ⟨ad.block, ad.off + 3, none⟩ = some (.int .u8 (rd l 3)) := fun o => by
    obtain ⟨ad', ea, k⟩ := Kd.at_int (Kd.C_alloc hr o) 3 (by omega) (by omega)
    obtain rfl := Option.some.inj ea
    simpa [Addr.add] using k
  have p3 : ∀ o o', ((w.alloc o).alloc o').cell? ⟨ad.block, ad.off + 3, none⟩ = some (.int .u8 (rd l 3)) := fun o o' => by
    obtain ⟨ad', ea, k⟩ := Kd.at_int (Kd.C_alloc (Kd.C_alloc hr o) o') 3 (by omega) (by omega)
    obtain rfl := Option.some.inj ea
    simpa [Addr.add] using k
  replace k3 : w.cell? ⟨ad.block, ad.off + 3, none⟩ = some (.int .u8 (rd l 3)) := by simpa [Addr.add] using k3
  obtain ⟨ad4, ea, k4⟩ := Kd.at_int hr 4 (by omega) (by omega)
  obtain rfl := Option.some.inj ea
  clear ea
  have m4 : ∀ o, (w.alloc o).cell? ⟨ad.block, ad.off + 4, none⟩ = some (.int .u8 (rd l 4)) := fun o => by
    obtain ⟨ad', ea, k⟩ := Kd.at_int (Kd.C_alloc hr o) 4 (by omega) (by omega)
    obtain rfl := Option.some.inj ea
    simpa [Addr.add] using k
  have p4 : ∀ o o', ((w.alloc o).alloc o').cell? ⟨ad.block, ad.off + 4, none⟩ = some (.int .u8 (rd l 4)) := fun o o' => by
    obtain ⟨ad', ea, k⟩ := Kd.at_int (Kd.C_alloc (Kd.C_alloc hr o) o') 4 (by omega) (by omega)
    obtain rfl := Option.some.inj ea
    simpa [Addr.add] using k
  replace k4 : w.cell? ⟨ad.block, ad.off + 4, none⟩ = some (.int .u8 (rd l 4)) := by simpa [Addr.add] using k4
  clear hr
  go_enter Try.func30, Try.ntmps30
  go_wp2
  refine bodyPost_ret (v := .tuple #[.agg #[.int .u8 0, .int .u8 0, .int .u8 0, .int .u16 0, .bool false, .bool false], .bool false]) (by simp [results, Try.results30, go_sem]) rfl ⟨rfl, by go_grown⟩
set_option maxRecDepth 100000 in
set_option maxHeartbeats 8000000 in
theorem one3 (A : Option Addr) (c : Nat) (l : List Int) (hl : l.length = 5) (w : World) (hr : Kd.C (Kd.int .u8) w A l.length l) (g0 : ¬ rd l 0 > 63) (g1 : ¬ rd l 1 > 63) (g2 : ¬ rd l 2 > 31) (g3 : Int.tmod (rd l 4) 64 > 1) :
    Calls Try.prog 30 #[.slice A l.length c] w fun e' w' => e' = .returned (.tuple #[.agg #[.int .u8 0, .int .u8 0, .int .u8 0, .int .u16 0, .bool false, .bool false], .bool false]) ∧ Below w.heap.size w w' := by
  rw [hl] at hr ⊢
  obtain ⟨ad, ea, k0⟩ := Kd.at_int hr 0 (by omega) (by omega)
  subst ea
  have m0 : ∀ o, (w.alloc o).cell? ad = some (.int .u8 (rd l 0)) := fun o => by
    obtain ⟨ad', ea, k⟩ := Kd.at_int (Kd.C_alloc hr o) 0 (by omega) (by omega)
    obtain rfl := Option.some.inj ea
    simpa [Addr.add] using k
  have p0 : ∀ o o', ((w.alloc o).alloc o').cell? ad = some (.int .u8 (rd l 0)) := fun o o' => by
    obtain ⟨ad', ea, k⟩ := Kd.at_int (Kd.C_alloc (Kd.C_alloc hr o) o') 0 (by omega) (by omega)
    obtain rfl := Option.some.inj ea
    simpa [Addr.add] using k
  replace k0 : w.cell? ad = some (.int .u8 (rd l 0)) := by simpa [Addr.add] using k0
  obtain ⟨ad1, ea, k1⟩ := Kd.at_int hr 1 (by omega) (by omega)
  obtain rfl := Option.some.inj ea
  clear ea
  have m1 : ∀ o, (w.alloc o).cell? ⟨ad.block, ad.off + 1, none⟩ = some (.int .u8 (rd l 1)) := fun o => by
    obtain ⟨ad', ea, k⟩ := Kd.at_int (Kd.C_alloc hr o) 1 (by omega) (by omega)
    obtain rfl := Option.some.inj ea
    simpa [Addr.add] using k
  have p1 : ∀ o o', ((w.alloc o).alloc o').cell? ⟨ad.block, ad.off + 1, none⟩ = some (.int .u8 (rd l 1)) := fun o o' => by
    obtain ⟨ad', ea, k⟩ := Kd.at_int (Kd.C_alloc (Kd.C_alloc hr o) o') 1 (by omega) (by omega)
    obtain rfl := Option.some.inj ea
    simpa [Addr.add] using k
  replace k1 : w.cell? ⟨ad.block, ad.off + 1, none⟩ = some (.int .u8 (rd l 1)) := by simpa [Addr.add] using k1
  obtain ⟨ad2, ea, k2⟩ := Kd.at_int hr 2 (by omega) (by omega)
  obtain rfl := Option.some.inj ea
  clear ea
  have m2 : ∀ o, (w.alloc o).cell? ⟨ad.block, ad.off + 2, none⟩ = some (.int .u8 (rd l 2)) := fun o => by
    obtain ⟨ad', ea, k⟩ := Kd.at_int (Kd.C_alloc hr o) 2 (by omega) (by omega)
    obtain rfl := Option.some.inj ea
    simpa [Addr.add] using k
  have p2 : ∀ o o', ((w.alloc o).alloc o').cell? ⟨ad.block, ad.off + 2, none⟩ = some (.int .u8 (rd l 2)) := fun o o' => by
    obtain ⟨ad', ea, k⟩ := Kd.at_int (Kd.C_alloc (Kd.C_alloc hr o) o') 2 (by omega) (by omega)
    obtain rfl := Option.some.inj ea
    simpa [Addr.add] using k
  replace k2 : w.cell? ⟨ad.block, ad.off + 2, none⟩ = some (.int .u8 (rd l 2)) := by simpa [Addr.add] using k2
  obtain ⟨ad3, ea, k3⟩ := Kd.at_int hr 3 (by omega) (by omega)
  obtain rfl := Option.some.inj ea
  clear ea
  have m3 : ∀ o, (w.alloc o).cell? ⟨ad.block, ad.off + 3, none⟩ = some (.int .u8 (rd l 3)) := fun o => by
    obtain ⟨ad', ea, k⟩ := Kd.at_int (Kd.C_alloc hr o) 3 (by omega) (by omega)
    obtain rfl := Option.some.inj ea
    simpa [Addr.add] using k
  have p3 : ∀ o o', ((w.alloc o).alloc o').cell? ⟨ad.block, ad.off + 3, none⟩ = some (.int .u8 (rd l 3)) := fun o o' => by
    obtain ⟨ad', ea, k⟩ := Kd.at_int (Kd.C_alloc (Kd.C_alloc hr o) o') 3 (by omega) (by omega)
    obtain rfl := Option.some.inj ea
    simpa [Addr.add] using k
  replace k3 : w.cell? ⟨ad.block, ad.off + 3, none⟩ = some (.int .u8 (rd l 3)) := by simpa [Addr.add] using k3
  obtain ⟨ad4, ea, k4⟩ := Kd.at_int hr 4 (by omega) (by omega)
  obtain rfl := Option.some.inj ea
  clear ea
  have m4 : ∀ o, (w.alloc o).cell? ⟨ad.block, ad.off + 4, none⟩ = some (.int .u8 (rd l 4)) := fun o => by
    obtain ⟨ad', ea, k⟩ := Kd.at_int (Kd.C_alloc hr o) 4 (by omega) (by omega)
    obtain rfl := Option.some.inj ea
    simpa [Addr.add] using k
  have p4 : ∀ o o', ((w.alloc o).alloc o').cell? ⟨ad.block, ad.off + 4, none⟩ = some (.int .u8 (rd l 4)) := fun o o' => by
    obtain ⟨ad', ea, k⟩ := Kd.at_int (Kd.C_alloc (Kd.C_alloc hr o) o') 4 (by omega) (by omega)
    obtain rfl := Option.some.inj ea
    simpa [Addr.add] using k
  replace k4 : w.cell? ⟨ad.block, ad.off + 4, none⟩ = some (.int .u8 (rd l 4)) := by simpa [Addr.add] using k4
  clear hr
  go_enter Try.func30, Try.ntmps30
  go_wp2
  refine bodyPost_ret (v := .tuple #[.agg #[.int .u8 0, .int .u8 0, .int .u8 0, .int .u16 0, .bool false, .bool false], .bool false]) (by simp [results, Try.results30, go_sem]) rfl ⟨rfl, by go_grown⟩
set_option maxRecDepth 100000 in
set_option maxHeartbeats 8000000 in
theorem one4 (A : Option Addr) (c : Nat) (l : List Int) (hl : l.length = 5) (w : World) (hr : Kd.C (Kd.int .u8) w A l.length l) (g0 : ¬ rd l 0 > 63) (g1 : ¬ rd l 1 > 63) (g2 : ¬ rd l 2 > 31) (g3 : ¬ Int.tmod (rd l 4) 64 > 1) :
    Calls Try.prog 30 #[.slice A l.length c] w fun e' w' => e' = .returned (.tuple #[.agg #[.int .u8 (rd l 0), .int .u8 (rd l 1), .int .u8 (rd l 2), .int .u16 (IntKind.u16.wrap (IntKind.u16.wrap (IntKind.u16.wrap (Int.tmod (rd l 4) 2) * 256) + IntKind.u16.wrap (rd l 3))), .bool (Int.tdiv (rd l 4) 64 % 256 % 2 == 1), .bool (decide (128 ≤ rd l 4))], .bool true]) ∧ Below w.heap.size w w' := by
  rw [hl] at hr ⊢
  obtain ⟨ad, ea, k0⟩ := Kd.at_int hr 0 (by omega) (by omega)
  subst ea
  have m0 : ∀ o, (w.alloc o).cell? ad = some (.int .u8 (rd l 0)) := fun o => by
    obtain ⟨ad', ea, k⟩ := Kd.at_int (Kd.C_alloc hr o) 0 (by omega) (by omega)
    obtain rfl := Option.some.inj ea
    simpa [Addr.add] using k
  have p0 : ∀ o o', ((w.alloc o).alloc o').cell? ad = some (.int .u8 (rd l 0)) := fun o o' => by
    obtain ⟨ad', ea, k⟩ := Kd.at_int (Kd.C_alloc (Kd.C_alloc hr o) o') 0 (by omega) (by omega)
    obtain rfl := Option.some.inj ea
    simpa [Addr.add] using k
  replace k0 : w.cell? ad = some (.int .u8 (rd l 0)) := by simpa [Addr.add] using k0
  obtain ⟨ad1, ea, k1⟩ := Kd.at_int hr 1 (by omega) (by omega)
  obtain rfl := Option.some.inj ea
  clear ea
  have m1 : ∀ o, (w.alloc o).cell? ⟨ad.block, ad.off + 1, none⟩ = some (.int .u8 (rd l 1)) := fun o => by
    obtain ⟨ad', ea, k⟩ := Kd.at_int (Kd.C_alloc hr o) 1 (by omega) (by omega)
    obtain rfl := Option.some.inj ea
    simpa [Addr.add] using k
  have p1 : ∀ o o', ((w.alloc o).alloc o').cell? ⟨ad.block, ad.off + 1, none⟩ = some (.int .u8 (rd l 1)) := fun o o' => by
    obtain ⟨ad', ea, k⟩ := Kd.at_int (Kd.C_alloc (Kd.C_alloc hr o) o') 1 (by omega) (by omega)
    obtain rfl := Option.some.inj ea
    simpa [Addr.add] using k
  replace k1 : w.cell? ⟨ad.block, ad.off + 1, none⟩ = some (.int .u8 (rd l 1)) := by simpa [Addr.add] using k1
  obtain ⟨ad2, ea, k2⟩ := Kd.at_int hr 2 (by omega) (by omega)
  obtain rfl := Option.some.inj ea
  clear ea
  have m2 : ∀ o, (w.alloc o).cell? ⟨ad.block, ad.off + 2, none⟩ = some (.int .u8 (rd l 2)) := fun o => by
    obtain ⟨ad', ea, k⟩ := Kd.at_int (Kd.C_alloc hr o) 2 (by omega) (by omega)
    obtain rfl := Option.some.inj ea
    simpa [Addr.add] using k
  have p2 : ∀ o o', ((w.alloc o).alloc o').cell? ⟨ad.block, ad.off + 2, none⟩ = some (.int .u8 (rd l 2)) := fun o o' => by
    obtain ⟨ad', ea, k⟩ := Kd.at_int (Kd.C_alloc (Kd.C_alloc hr o) o') 2 (by omega) (by omega)
    obtain rfl := Option.some.inj ea
    simpa [Addr.add] using k
  replace k2 : w.cell? ⟨ad.block, ad.off + 2, none⟩ = some (.int .u8 (rd l 2)) := by simpa [Addr.add] using k2
  obtain ⟨ad3, ea, k3⟩ := Kd.at_int hr 3 (by omega) (by omega)
  obtain rfl := Option.some.inj ea
  clear ea
  have m3 : ∀ o, (w.alloc o).cell? ⟨ad.block, ad.off + 3, none⟩ = some (.int .u8 (rd l 3)) := fun o => by
    obtain ⟨ad', ea, k⟩ := Kd.at_int (Kd.C_alloc hr o) 3 (by omega) (by omega)
    obtain rfl := Option.some.inj ea
    simpa [Addr.add] using k
  have p3 : ∀ o o', ((w.alloc o).alloc o').cell? ⟨ad.block, ad.off + 3, none⟩ = some (.int .u8 (rd l 3)) := fun o o' => by
    obtain ⟨ad', ea, k⟩ := Kd.at_int (Kd.C_alloc (Kd.C_alloc hr o) o') 3 (by omega) (by omega)
    obtain rfl := Option.some.inj ea
    simpa [Addr.add] using k
  replace k3 : w.cell? ⟨ad.block, ad.off + 3, none⟩ = some (.int .u8 (rd l 3)) := by simpa [Addr.add] using k3
  obtain ⟨ad4, ea, k4⟩ := Kd.at_int hr 4 (by omega) (by omega)
  obtain rfl := Option.some.inj ea
  clear ea
  have m4 : ∀ o, (w.alloc o).cell? ⟨ad.block, ad.off + 4, none⟩ = some (.int .u8 (rd l 4)) := fun o => by
    obtain ⟨ad', ea, k⟩ := Kd.at_int (Kd.C_alloc hr o) 4 (by omega) (by omega)
    obtain rfl := Option.some.inj ea
    simpa [Addr.add] using k
  have p4 : ∀ o o', ((w.alloc o).alloc o').cell? ⟨ad.block, ad.off + 4, none⟩ = some (.int .u8 (rd l 4)) := fun o o' => by
    obtain ⟨ad', ea, k⟩ := Kd.at_int (Kd.C_alloc (Kd.C_alloc hr o) o') 4 (by omega) (by omega)
    obtain rfl := Option.some.inj ea
    simpa [Addr.add] using k
  replace k4 : w.cell? ⟨ad.block, ad.off + 4, none⟩ = some (.int .u8 (rd l 4)) := by simpa [Addr.add] using k4
  clear hr
  go_enter Try.func30, Try.ntmps30
  go_wp2
  have bk := blk_new w (.cells #[.int .u8 0, .int .u8 0, .int .u8 0, .int .u16 0, .bool false, .bool false] 24)
  have hB := below_alloc (Below.refl w.heap.size w) (.cells #[.int .u8 0, .int .u8 0, .int .u8 0, .int .u16 0, .bool false, .bool false] 24)
  have n0 := m0 (.cells #[.int .u8 0, .int .u8 0, .int .u8 0, .int .u16 0, .bool false, .bool false] 24)
  have n1 := m1 (.cells #[.int .u8 0, .int .u8 0, .int .u8 0, .int .u16 0, .bool false, .bool false] 24)
  have n2 := m2 (.cells #[.int .u8 0, .int .u8 0, .int .u8 0, .int .u16 0, .bool false, .bool false] 24)
  have n3 := m3 (.cells #[.int .u8 0, .int .u8 0, .int .u8 0, .int .u16 0, .bool false, .bool false] 24)
  have n4 := m4 (.cells #[.int .u8 0, .int .u8 0, .int .u8 0, .int .u16 0, .bool false, .bool false] 24)
  generalize w.alloc (.cells #[.int .u8 0, .int .u8 0, .int .u8 0, .int .u16 0, .bool false, .bool false] 24) = W at bk hB n0 n1 n2 n3 n4 ⊢
  clear m0 m1 m2 m3 m4 p0 p1 p2 p3 p4 k0 k1 k2 k3 k4
  have BK := Aside0.mk (blk_drew bk)
  have HB := Aside0.mk (below_drew1 hB)
  clear bk hB
  go_still_tail 30, (by kernel_rfl)
  change wpList _ _ _ _ _ W.drew
  generalize W.drew = W2 at BK HB ⊢
  have zr0 : W2.cell? ⟨w.heap.size, 0, none⟩ = some (.int .u8 0) := (blk_cell BK.out 0).trans rfl
  have zr1 : W2.cell? ⟨w.heap.size, 1, none⟩ = some (.int .u8 0) := (blk_cell BK.out 1).trans rfl
  have zr2 : W2.cell? ⟨w.heap.size, 2, none⟩ = some (.int .u8 0) := (blk_cell BK.out 2).trans rfl
  have zr3 : W2.cell? ⟨w.heap.size, 3, none⟩ = some (.int .u16 0) := (blk_cell BK.out 3).trans rfl
  have zr4 : W2.cell? ⟨w.heap.size, 4, none⟩ = some (.bool false) := (blk_cell BK.out 4).trans rfl
  have zr5 : W2.cell? ⟨w.heap.size, 5, none⟩ = some (.bool false) := (blk_cell BK.out 5).trans rfl
  have fz := fun i => blk_frozen BK.out i
  go_wp2
  have q1 : ((((((W2.setCell ⟨w.heap.size, 0, none⟩ (.int .u8 (rd l 0))).setCell ⟨w.heap.size, 1, none⟩ (.int .u8 (rd l 1))).setCell ⟨w.heap.size, 2, none⟩ (.int .u8 (rd l 2))).setCell ⟨w.heap.size, 3, none⟩ (.int .u16 (IntKind.u16.wrap (IntKind.u16.wrap (IntKind.u16.wrap (Int.tmod (rd l 4) 2) * 256) + IntKind.u16.wrap (rd l 3))))).setCell ⟨w.heap.size, 4, none⟩ (.bool (Int.tdiv (rd l 4) 64 % 256 % 2 == 1))).setCell ⟨w.heap.size, 5, none⟩ (.bool (decide (128 ≤ rd l 4)))).heap[w.heap.size]? = some (.cells #[.int .u8 (rd l 0), .int .u8 (rd l 1), .int .u8 (rd l 2), .int .u16 (IntKind.u16.wrap (IntKind.u16.wrap (IntKind.u16.wrap (Int.tmod (rd l 4) 2) * 256) + IntKind.u16.wrap (rd l 3))), .bool (Int.tdiv (rd l 4) 64 % 256 % 2 == 1), .bool (decide (128 ≤ rd l 4))] 24 (0, 0)) := (blk_put (blk_put (blk_put (blk_put (blk_put (blk_put BK.out 0 _ rfl) 1 _ rfl) 2 _ rfl) 3 _ rfl) 4 _ rfl) 5 _ rfl)
  have q2 : Below w.heap.size w ((((((W2.setCell ⟨w.heap.size, 0, none⟩ (.int .u8 (rd l 0))).setCell ⟨w.heap.size, 1, none⟩ (.int .u8 (rd l 1))).setCell ⟨w.heap.size, 2, none⟩ (.int .u8 (rd l 2))).setCell ⟨w.heap.size, 3, none⟩ (.int .u16 (IntKind.u16.wrap (IntKind.u16.wrap (IntKind.u16.wrap (Int.tmod (rd l 4) 2) * 256) + IntKind.u16.wrap (rd l 3))))).setCell ⟨w.heap.size, 4, none⟩ (.bool (Int.tdiv (rd l 4) 64 % 256 % 2 == 1))).setCell ⟨w.heap.size, 5, none⟩ (.bool (decide (128 ≤ rd l 4)))) := (below_set (below_set (below_set (below_set (below_set (below_set HB.out (Nat.le_refl _)) (Nat.le_refl _)) (Nat.le_refl _)) (Nat.le_refl _)) (Nat.le_refl _)) (Nat.le_refl _))
  generalize ((((((W2.setCell ⟨w.heap.size, 0, none⟩ (.int .u8 (rd l 0))).setCell ⟨w.heap.size, 1, none⟩ (.int .u8 (rd l 1))).setCell ⟨w.heap.size, 2, none⟩ (.int .u8 (rd l 2))).setCell ⟨w.heap.size, 3, none⟩ (.int .u16 (IntKind.u16.wrap (IntKind.u16.wrap (IntKind.u16.wrap (Int.tmod (rd l 4) 2) * 256) + IntKind.u16.wrap (rd l 3))))).setCell ⟨w.heap.size, 4, none⟩ (.bool (Int.tdiv (rd l 4) 64 % 256 % 2 == 1))).setCell ⟨w.heap.size, 5, none⟩ (.bool (decide (128 ≤ rd l 4)))) = YY at q1 q2 ⊢
  have u0 : YY.cell? ⟨w.heap.size, 0, none⟩ = some (.int .u8 (rd l 0)) := (blk_cell q1 0).trans rfl
  have u1 : YY.cell? ⟨w.heap.size, 1, none⟩ = some (.int .u8 (rd l 1)) := (blk_cell q1 1).trans rfl
  have u2 : YY.cell? ⟨w.heap.size, 2, none⟩ = some (.int .u8 (rd l 2)) := (blk_cell q1 2).trans rfl
  have u3 : YY.cell? ⟨w.heap.size, 3, none⟩ = some (.int .u16 (IntKind.u16.wrap (IntKind.u16.wrap (IntKind.u16.wrap (Int.tmod (rd l 4) 2) * 256) + IntKind.u16.wrap (rd l 3)))) := (blk_cell q1 3).trans rfl
  have u4 : YY.cell? ⟨w.heap.size, 4, none⟩ = some (.bool (Int.tdiv (rd l 4) 64 % 256 % 2 == 1)) := (blk_cell q1 4).trans rfl
  have u5 : YY.cell? ⟨w.heap.size, 5, none⟩ = some (.bool (decide (128 ≤ rd l 4))) := (blk_cell q1 5).trans rfl
  exact bodyPost_ret (v := .tuple #[.agg #[.int .u8 (rd l 0), .int .u8 (rd l 1), .int .u8 (rd l 2), .int .u16 (IntKind.u16.wrap (IntKind.u16.wrap (IntKind.u16.wrap (Int.tmod (rd l 4) 2) * 256) + IntKind.u16.wrap (rd l 3))), .bool (Int.tdiv (rd l 4) 64 % 256 % 2 == 1), .bool (decide (128 ≤ rd l 4))], .bool true]) (by simp [results, Try.results30, go_sem, u0, u1, u2, u3, u4, u5]) rfl ⟨rfl, q2⟩
def whirligigref09_one.f (l : List Int) : Option (Int × Int × Int × Int × Bool × Bool × Bool) :=
  if l.length = 5 then (if rd l 0 > 63 then some (0, 0, 0, 0, false, false, false) else if rd l 1 > 63 then some (0, 0, 0, 0, false, false, false) else if rd l 2 > 31 then some (0, 0, 0, 0, false, false, false) else if Int.tmod (rd l 4) 64 > 1 then some (0, 0, 0, 0, false, false, false) else some (rd l 0, rd l 1, rd l 2, IntKind.u16.wrap (IntKind.u16.wrap (IntKind.u16.wrap (Int.tmod (rd l 4) 2) * 256) + IntKind.u16.wrap (rd l 3)), (Int.tdiv (rd l 4) 64 % 256 % 2 == 1), decide (128 ≤ rd l 4), true)) else none
theorem whirligigref09_one.calls (A0 : Option Addr) (c0 : Nat) (l0 : List Int) (r1 : Int) (r2 : Int) (r3 : Int) (r4 : Int) (r5 : Bool) (r6 : Bool) (r7 : Bool) (w : World) (hr0 : Kd.C (Kd.int .u8) w A0 l0.length l0) (hc0 : l0.length ≤ c0) (h : whirligigref09_one.f l0 = some (r1, r2, r3, r4, r5, r6, r7)) :
    Calls Try.prog 30 #[.slice A0 l0.length c0] w fun e w' => e = .returned (.tuple #[.agg #[.int .u8 r1, .int .u8 r2, .int .u8 r3, .int .u16 r4, .bool r5, .bool r6], .bool r7]) ∧ Below w.heap.size w w' := by
  unfold whirligigref09_one.f at h
  by_cases hl : l0.length = 5
  case neg => rw [if_neg hl] at h; exact absurd h (by simp)
  rw [if_pos hl] at h
  by_cases g0 : rd l0 0 > 63
  · rw [if_pos g0] at h
    cases h
    exact one0 A0 c0 l0 hl w hr0 g0
  rw [if_neg g0] at h
  by_cases g1 : rd l0 1 > 63
  · rw [if_pos g1] at h
    cases h
    exact one1 A0 c0 l0 hl w hr0 g0 g1
  rw [if_neg g1] at h
  by_cases g2 : rd l0 2 > 31
  · rw [if_pos g2] at h
    cases h
    exact one2 A0 c0 l0 hl w hr0 g0 g1 g2
  rw [if_neg g2] at h
  by_cases g3 : Int.tmod (rd l0 4) 64 > 1
  · rw [if_pos g3] at h
    cases h
    exact one3 A0 c0 l0 hl w hr0 g0 g1 g2 g3
  rw [if_neg g3] at h
  have h := Option.some.inj h
  simp only [Prod.mk.injEq] at h
  obtain ⟨rfl, rfl, rfl, rfl, rfl, rfl, rfl⟩ := h
  exact one4 A0 c0 l0 hl w hr0 g0 g1 g2 g3
end Go.Proofs.Ytkfjofkocccefaa.Hand
