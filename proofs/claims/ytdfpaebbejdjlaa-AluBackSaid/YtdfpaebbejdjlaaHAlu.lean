/- alu.sub and alu.Cpl by hand: they turn a byte's bits about. -/
import Derived.Test.YtdfpaebbejdjlaaG2
import Derived.Deep.RegionHeld3
namespace Go.Proofs.Ytdfpaebbejdjlaa.Hand
open Go.RowKit Go.Proofs.Ytdfpaebbejdjlaa.G
open Go.Proofs.YtdfpaebbejdjlaaW.PrintWords Go.Proofs.YtdfpaebbejdjlaaW.PrintLast Go.Proofs.YtdfpaebbejdjlaaW.PrintMore
set_option linter.unusedVariables false
theorem bcell {W w1 : World} (hb : Below W.heap.size W w1) : (∀ b o, b < W.heap.size → w1.cell? ⟨b, o, none⟩ = W.cell? ⟨b, o, none⟩) ∧ (∀ b o, b < W.heap.size → w1.frozen? ⟨b, o, none⟩ = W.frozen? ⟨b, o, none⟩) :=
  ⟨fun b o h => hb.cell (p := ⟨b, o, none⟩) h, fun b o h => hb.frozen (p := ⟨b, o, none⟩) h⟩
set_option maxRecDepth 100000 in
theorem cpl_calls (a : Int) (z n h c : Bool) (w : World) :
    Calls Try.prog 25 #[.int .u8 a, .agg #[.bool z, .bool n, .bool h, .bool c]] w fun e w' => e = .returned (.tuple #[.int .u8 (bits .xor .u8 IntKind.u8.max a), .agg #[.bool z, .bool true, .bool true, .bool c]]) ∧ Below w.heap.size w w' := by
  go_enter Try.func25, Try.ntmps25
  go_wp2
  go_region
  all_goals go_wp2
  all_goals refine bodyPost_ret (v := .tuple #[.int .u8 (bits .xor .u8 IntKind.u8.max a), .agg #[.bool z, .bool true, .bool true, .bool c]]) (by simp [results, Try.results25, go_sem]) rfl ⟨rfl, ?_⟩
  all_goals exact below_drew1 (below_alloc (below_alloc (Below.refl _ _) _) _)
set_option maxRecDepth 100000 in
theorem sub_calls (a v c x : Int) (z n h q : Bool) (w : World) (ha : alu_add.f a (bits .xor .u8 IntKind.u8.max v) ((1 - c) % 256) = some (x, z, n, h, q)) :
    Calls Try.prog 36 #[.int .u8 a, .int .u8 v, .int .u8 c] w fun e w' => e = .returned (.tuple #[.int .u8 x, .agg #[.bool (x == 0), .bool true, .bool !h, .bool !q]]) ∧ Below w.heap.size w w' := by
  have HA := Aside0.mk ha
  clear ha
  have hsg : IntKind.u8.signed = false := rfl
  go_enter Try.func36, Try.ntmps36
  go_wp2_with fail
  refine (alu_add.calls _ _ _ x z n h q _ HA.out).mono ?_
  rintro e w1 ⟨rfl, hb⟩
  obtain ⟨hc, hf⟩ := bcell hb
  have HB := Aside0.mk hb
  have hz : w.heap.size < w1.heap.size := by have := hb.size; simp at this; omega
  have hk : w1.heap[w.heap.size]? = some (.cells #[.bool false, .bool false, .bool false, .bool false] 23 (0, 0)) := (hb.block w.heap.size (by simp)).trans (heap_alloc_new w _)
  have k0 : ∀ o, (w1.alloc o).cell? ⟨w.heap.size, 0, none⟩ = some (.bool false) := fun o => (blk_cell (blk_alloc hk o) 0).trans rfl
  have k1 : ∀ o, (w1.alloc o).cell? ⟨w.heap.size, 1, none⟩ = some (.bool false) := fun o => (blk_cell (blk_alloc hk o) 1).trans rfl
  have k2 : ∀ o, (w1.alloc o).cell? ⟨w.heap.size, 2, none⟩ = some (.bool false) := fun o => (blk_cell (blk_alloc hk o) 2).trans rfl
  have k3 : ∀ o, (w1.alloc o).cell? ⟨w.heap.size, 3, none⟩ = some (.bool false) := fun o => (blk_cell (blk_alloc hk o) 3).trans rfl
  have f0 : ∀ o i, (w1.alloc o).frozen? ⟨w.heap.size, i, none⟩ = false := fun o i => blk_frozen (blk_alloc hk o) i
  have hne : ¬ w.heap.size = w1.heap.size := by omega
  have hne' : ¬ w1.heap.size = w.heap.size := by omega
  clear hb hz hk hc hf
  go_wp2
  go_region
  all_goals go_wp2
  all_goals refine bodyPost_ret (v := .tuple #[.int .u8 x, .agg #[.bool (x == 0), .bool true, .bool !h, .bool !q]]) (by simp [results, Try.results36, go_sem, k0, k1, k2, k3]) rfl ⟨rfl, ?_⟩
  all_goals repeat (first | exact Below.refl _ _ | apply below_drew1 | (refine Below.setCell ?_ (by simp) _) | apply below_alloc | (refine Below.trans ?_ (HB.out.mono (by simp))))
def alu_sub.f (a0 : Int) (a1 : Int) (a2 : Int) : Option (Int × Bool × Bool × Bool × Bool) :=
  (alu_add.f a0 (Go.bits .xor .u8 IntKind.u8.max a1) ((1 - a2) % 256)).bind fun t => some (t.1, t.1 == 0, true, !t.2.2.2.1, !t.2.2.2.2)
theorem alu_sub.calls (a0 : Int) (a1 : Int) (a2 : Int) (r1 : Int) (r2 : Bool) (r3 : Bool) (r4 : Bool) (r5 : Bool) (w : World) (h : alu_sub.f a0 a1 a2 = some (r1, r2, r3, r4, r5)) :
    Calls Try.prog 36 #[.int .u8 a0, .int .u8 a1, .int .u8 a2] w fun e w' => e = .returned (.tuple #[.int .u8 r1, .agg #[.bool r2, .bool r3, .bool r4, .bool r5]]) ∧ Below w.heap.size w w' := by
  unfold alu_sub.f at h
  obtain ⟨⟨x, z, n, q, c⟩, ht, h⟩ := Option.bind_eq_some_iff.mp h
  simp only [Option.some.injEq, Prod.mk.injEq] at h
  obtain ⟨rfl, rfl, rfl, rfl, rfl⟩ := h
  exact sub_calls a0 a1 a2 x z n q c w ht
def alu_Cpl.f (a0 : Int) (a1_0 : Bool) (a1_1 : Bool) (a1_2 : Bool) (a1_3 : Bool) : Option (Int × Bool × Bool × Bool × Bool) := some (Go.bits .xor .u8 IntKind.u8.max a0, a1_0, true, true, a1_3)
theorem alu_Cpl.calls (a0 : Int) (a1_0 : Bool) (a1_1 : Bool) (a1_2 : Bool) (a1_3 : Bool) (r1 : Int) (r2 : Bool) (r3 : Bool) (r4 : Bool) (r5 : Bool) (w : World) (h : alu_Cpl.f a0 a1_0 a1_1 a1_2 a1_3 = some (r1, r2, r3, r4, r5)) :
    Calls Try.prog 25 #[.int .u8 a0, .agg #[.bool a1_0, .bool a1_1, .bool a1_2, .bool a1_3]] w fun e w' => e = .returned (.tuple #[.int .u8 r1, .agg #[.bool r2, .bool r3, .bool r4, .bool r5]]) ∧ Below w.heap.size w w' := by
  simp only [alu_Cpl.f, Option.some.injEq, Prod.mk.injEq] at h
  obtain ⟨rfl, rfl, rfl, rfl, rfl⟩ := h
  exact cpl_calls a0 _ _ _ _ w
end Go.Proofs.Ytdfpaebbejdjlaa.Hand
