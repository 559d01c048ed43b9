/- AluBack by hand: every call by its contract, every comparison true. -/
import Derived.Test.YtdfpaebbejdjlaaG6
import Derived.Test.YtdfpaebbejdjlaaG3
import Derived.Test.YtdfpaebbejdjlaaG33
import Derived.Test.YtdfpaebbejdjlaaG35
import Derived.Test.YtdfpaebbejdjlaaG24
import Derived.Test.YtdfpaebbejdjlaaHByte
import Derived.Test.YtdfpaebbejdjlaaG1
import Derived.Deep.MidRow
import Derived.Deep.RegionHeld3
import Derived.Handy
namespace Go.Proofs.Ytdfpaebbejdjlaa.Hand
open Go.RowKit
open Go.Proofs.Ytdfpaebbejdjlaa.G
open Go.Proofs.YtdfpaebbejdjlaaW.PrintWords Go.Proofs.YtdfpaebbejdjlaaW.PrintLast Go.Proofs.YtdfpaebbejdjlaaW.PrintMore
set_option linter.unusedVariables false
set_option linter.unusedSimpArgs false
set_option maxRecDepth 100000 in
set_option maxHeartbeats 4000000 in
theorem back_false (k : Nat) (a v s b mo le pl y : Int) (z n h : Bool) (g2 g3 g4 h1 h2 h3 i1 i2 i3 q j1 j2 j3 x1 x2 x3 x4 y1 y2 y3 y4 u1 u2 u3 u4 : Bool) (pl2 : Int)
    (hup : whirligiglaw02_shown.f k = some true) (d1 : alu_Do.f 1 a v z n h false = some (s, (s == 0), g2, g3, g4)) (d2 : alu_Do.f 3 s v z n h false = some (a, x1, x2, x3, x4)) (d3 : alu_Do.f 2 s a false false false false = some (v, y1, y2, y3, y4))
    (d4 : alu_Inc.f a z n h false = some (mo, u1, u2, u3, u4)) (d5 : alu_Dec.f mo z n h false = some (a, h1, h2, h3, false)) (d6 : alu_Do.f 0 a v z n h false = some (pl, i1, i2, i3, q)) (d7 : alu_Do.f 7 pl a false false false false = some (pl2, j1, j2, j3, q))
    (d8 : alu_Byte.f z n h false = some y) (d9 : alu_Of.f y = some (z, n, h, false)) (hy : Go.bits .and .u8 y 15 = 0) (w : World) :
    Calls Try.prog 10 #[.int .u8 a, .int .u8 v, .agg #[.bool z, .bool n, .bool h, .bool false]] w fun e w' => e = .returned (.bool true) ∧ Below w.heap.size w w' := by
  have HU := Aside0.mk hup
  have D1 := Aside0.mk d1
  have D2 := Aside0.mk d2
  have D3 := Aside0.mk d3
  have D4 := Aside0.mk d4
  have D5 := Aside0.mk d5
  have D6 := Aside0.mk d6
  have D7 := Aside0.mk d7
  have D8 := Aside0.mk d8
  have D9 := Aside0.mk d9
  clear hup d1 d2 d3 d4 d5 d6 d7 d8 d9
  go_enter Try.func10, Try.ntmps10
  have BFw := Aside0.mk (blk_new w (.cells #[.bool z, .bool n, .bool h, .bool false] 23))
  have HBw := Aside0.mk (below_alloc (Below.refl w.heap.size w) (.cells #[.bool z, .bool n, .bool h, .bool false] 23))
  go_wp2_with fail
  refine (whirligiglaw02_shown.calls k true _ HU.out rfl).mono ?_
  rintro e' w1 ⟨rfl, hb⟩
  have BFw1 := Aside0.mk (blk_below BFw.out hb)
  have HBw1 := Aside0.mk (below_step HBw.out hb)
  clear hb
  have sFw1 : w.heap.size < w1.heap.size := blk_lt BFw1.out
  have nFw1 : ¬ w.heap.size = w1.heap.size := by omega
  have kw1F0 : w1.cell? ⟨w.heap.size, 0, none⟩ = some (.bool z) := (blk_cell BFw1.out 0).trans rfl
  have aw1F0 : ∀ o, (w1.alloc o).cell? ⟨w.heap.size, 0, none⟩ = some (.bool z) := fun o => (blk_cell (blk_alloc BFw1.out o) 0).trans rfl
  have kw1F1 : w1.cell? ⟨w.heap.size, 1, none⟩ = some (.bool n) := (blk_cell BFw1.out 1).trans rfl
  have aw1F1 : ∀ o, (w1.alloc o).cell? ⟨w.heap.size, 1, none⟩ = some (.bool n) := fun o => (blk_cell (blk_alloc BFw1.out o) 1).trans rfl
  have kw1F2 : w1.cell? ⟨w.heap.size, 2, none⟩ = some (.bool h) := (blk_cell BFw1.out 2).trans rfl
  have aw1F2 : ∀ o, (w1.alloc o).cell? ⟨w.heap.size, 2, none⟩ = some (.bool h) := fun o => (blk_cell (blk_alloc BFw1.out o) 2).trans rfl
  have kw1F3 : w1.cell? ⟨w.heap.size, 3, none⟩ = some (.bool false) := (blk_cell BFw1.out 3).trans rfl
  have aw1F3 : ∀ o, (w1.alloc o).cell? ⟨w.heap.size, 3, none⟩ = some (.bool false) := fun o => (blk_cell (blk_alloc BFw1.out o) 3).trans rfl
  go_wp2_with fail
  refine (alu_Do.calls 1 a v z n h false s (s == 0) g2 g3 g4 _ D1.out).mono ?_
  rintro e' w2 ⟨rfl, hb⟩
  have BFw2 := Aside0.mk (blk_below BFw1.out hb)
  have HBw2 := Aside0.mk (below_step HBw1.out hb)
  clear hb
  have sFw2 : w.heap.size < w2.heap.size := blk_lt BFw2.out
  have nFw2 : ¬ w.heap.size = w2.heap.size := by omega
  have kw2F0 : w2.cell? ⟨w.heap.size, 0, none⟩ = some (.bool z) := (blk_cell BFw2.out 0).trans rfl
  have aw2F0 : ∀ o, (w2.alloc o).cell? ⟨w.heap.size, 0, none⟩ = some (.bool z) := fun o => (blk_cell (blk_alloc BFw2.out o) 0).trans rfl
  have kw2F1 : w2.cell? ⟨w.heap.size, 1, none⟩ = some (.bool n) := (blk_cell BFw2.out 1).trans rfl
  have aw2F1 : ∀ o, (w2.alloc o).cell? ⟨w.heap.size, 1, none⟩ = some (.bool n) := fun o => (blk_cell (blk_alloc BFw2.out o) 1).trans rfl
  have kw2F2 : w2.cell? ⟨w.heap.size, 2, none⟩ = some (.bool h) := (blk_cell BFw2.out 2).trans rfl
  have aw2F2 : ∀ o, (w2.alloc o).cell? ⟨w.heap.size, 2, none⟩ = some (.bool h) := fun o => (blk_cell (blk_alloc BFw2.out o) 2).trans rfl
  have kw2F3 : w2.cell? ⟨w.heap.size, 3, none⟩ = some (.bool false) := (blk_cell BFw2.out 3).trans rfl
  have aw2F3 : ∀ o, (w2.alloc o).cell? ⟨w.heap.size, 3, none⟩ = some (.bool false) := fun o => (blk_cell (blk_alloc BFw2.out o) 3).trans rfl
  go_wp2_with fail
  refine (alu_Do.calls 3 s v z n h false a x1 x2 x3 x4 _ D2.out).mono ?_
  rintro e' w3 ⟨rfl, hb⟩
  have BFw3 := Aside0.mk (blk_below (blk_alloc BFw2.out (.cells #[.bool (s == 0), .bool g2, .bool g3, .bool g4] 23)) hb)
  have BGw3 := Aside0.mk (blk_below (blk_new w2 (.cells #[.bool (s == 0), .bool g2, .bool g3, .bool g4] 23)) hb)
  have HBw3 := Aside0.mk (below_step (below_alloc HBw2.out (.cells #[.bool (s == 0), .bool g2, .bool g3, .bool g4] 23)) hb)
  clear hb
  have sFw3 : w.heap.size < w3.heap.size := blk_lt BFw3.out
  have nFw3 : ¬ w.heap.size = w3.heap.size := by omega
  have sGw3 : w2.heap.size < w3.heap.size := blk_lt BGw3.out
  have nGw3 : ¬ w2.heap.size = w3.heap.size := by omega
  have kw3F0 : w3.cell? ⟨w.heap.size, 0, none⟩ = some (.bool z) := (blk_cell BFw3.out 0).trans rfl
  have aw3F0 : ∀ o, (w3.alloc o).cell? ⟨w.heap.size, 0, none⟩ = some (.bool z) := fun o => (blk_cell (blk_alloc BFw3.out o) 0).trans rfl
  have kw3F1 : w3.cell? ⟨w.heap.size, 1, none⟩ = some (.bool n) := (blk_cell BFw3.out 1).trans rfl
  have aw3F1 : ∀ o, (w3.alloc o).cell? ⟨w.heap.size, 1, none⟩ = some (.bool n) := fun o => (blk_cell (blk_alloc BFw3.out o) 1).trans rfl
  have kw3F2 : w3.cell? ⟨w.heap.size, 2, none⟩ = some (.bool h) := (blk_cell BFw3.out 2).trans rfl
  have aw3F2 : ∀ o, (w3.alloc o).cell? ⟨w.heap.size, 2, none⟩ = some (.bool h) := fun o => (blk_cell (blk_alloc BFw3.out o) 2).trans rfl
  have kw3F3 : w3.cell? ⟨w.heap.size, 3, none⟩ = some (.bool false) := (blk_cell BFw3.out 3).trans rfl
  have aw3F3 : ∀ o, (w3.alloc o).cell? ⟨w.heap.size, 3, none⟩ = some (.bool false) := fun o => (blk_cell (blk_alloc BFw3.out o) 3).trans rfl
  go_wp2_with fail
  refine (alu_Do.calls 2 s a false false false false v y1 y2 y3 y4 _ D3.out).mono ?_
  rintro e' w4 ⟨rfl, hb⟩
  have BFw4 := Aside0.mk (blk_below (blk_alloc BFw3.out (.cells #[.bool x1, .bool x2, .bool x3, .bool x4] 23)) hb)
  have BGw4 := Aside0.mk (blk_below (blk_alloc BGw3.out (.cells #[.bool x1, .bool x2, .bool x3, .bool x4] 23)) hb)
  have HBw4 := Aside0.mk (below_step (below_alloc HBw3.out (.cells #[.bool x1, .bool x2, .bool x3, .bool x4] 23)) hb)
  clear hb
  have sFw4 : w.heap.size < w4.heap.size := blk_lt BFw4.out
  have nFw4 : ¬ w.heap.size = w4.heap.size := by omega
  have sGw4 : w2.heap.size < w4.heap.size := blk_lt BGw4.out
  have nGw4 : ¬ w2.heap.size = w4.heap.size := by omega
  have kw4F0 : w4.cell? ⟨w.heap.size, 0, none⟩ = some (.bool z) := (blk_cell BFw4.out 0).trans rfl
  have aw4F0 : ∀ o, (w4.alloc o).cell? ⟨w.heap.size, 0, none⟩ = some (.bool z) := fun o => (blk_cell (blk_alloc BFw4.out o) 0).trans rfl
  have kw4F1 : w4.cell? ⟨w.heap.size, 1, none⟩ = some (.bool n) := (blk_cell BFw4.out 1).trans rfl
  have aw4F1 : ∀ o, (w4.alloc o).cell? ⟨w.heap.size, 1, none⟩ = some (.bool n) := fun o => (blk_cell (blk_alloc BFw4.out o) 1).trans rfl
  have kw4F2 : w4.cell? ⟨w.heap.size, 2, none⟩ = some (.bool h) := (blk_cell BFw4.out 2).trans rfl
  have aw4F2 : ∀ o, (w4.alloc o).cell? ⟨w.heap.size, 2, none⟩ = some (.bool h) := fun o => (blk_cell (blk_alloc BFw4.out o) 2).trans rfl
  have kw4F3 : w4.cell? ⟨w.heap.size, 3, none⟩ = some (.bool false) := (blk_cell BFw4.out 3).trans rfl
  have aw4F3 : ∀ o, (w4.alloc o).cell? ⟨w.heap.size, 3, none⟩ = some (.bool false) := fun o => (blk_cell (blk_alloc BFw4.out o) 3).trans rfl
  go_wp2_with fail
  refine (alu_Inc.calls a z n h false mo u1 u2 u3 u4 _ D4.out).mono ?_
  rintro e' w5 ⟨rfl, hb⟩
  have BFw5 := Aside0.mk (blk_below (blk_alloc BFw4.out (.cells #[.bool y1, .bool y2, .bool y3, .bool y4] 23)) hb)
  have BGw5 := Aside0.mk (blk_below (blk_alloc BGw4.out (.cells #[.bool y1, .bool y2, .bool y3, .bool y4] 23)) hb)
  have HBw5 := Aside0.mk (below_step (below_alloc HBw4.out (.cells #[.bool y1, .bool y2, .bool y3, .bool y4] 23)) hb)
  clear hb
  have sFw5 : w.heap.size < w5.heap.size := blk_lt BFw5.out
  have nFw5 : ¬ w.heap.size = w5.heap.size := by omega
  have sGw5 : w2.heap.size < w5.heap.size := blk_lt BGw5.out
  have nGw5 : ¬ w2.heap.size = w5.heap.size := by omega
  have kw5F0 : w5.cell? ⟨w.heap.size, 0, none⟩ = some (.bool z) := (blk_cell BFw5.out 0).trans rfl
  have aw5F0 : ∀ o, (w5.alloc o).cell? ⟨w.heap.size, 0, none⟩ = some (.bool z) := fun o => (blk_cell (blk_alloc BFw5.out o) 0).trans rfl
  have kw5F1 : w5.cell? ⟨w.heap.size, 1, none⟩ = some (.bool n) := (blk_cell BFw5.out 1).trans rfl
  have aw5F1 : ∀ o, (w5.alloc o).cell? ⟨w.heap.size, 1, none⟩ = some (.bool n) := fun o => (blk_cell (blk_alloc BFw5.out o) 1).trans rfl
  have kw5F2 : w5.cell? ⟨w.heap.size, 2, none⟩ = some (.bool h) := (blk_cell BFw5.out 2).trans rfl
  have aw5F2 : ∀ o, (w5.alloc o).cell? ⟨w.heap.size, 2, none⟩ = some (.bool h) := fun o => (blk_cell (blk_alloc BFw5.out o) 2).trans rfl
  have kw5F3 : w5.cell? ⟨w.heap.size, 3, none⟩ = some (.bool false) := (blk_cell BFw5.out 3).trans rfl
  have aw5F3 : ∀ o, (w5.alloc o).cell? ⟨w.heap.size, 3, none⟩ = some (.bool false) := fun o => (blk_cell (blk_alloc BFw5.out o) 3).trans rfl
  go_wp2_with fail
  refine (alu_Dec.calls mo z n h false a h1 h2 h3 false _ D5.out).mono ?_
  rintro e' w6 ⟨rfl, hb⟩
  have BFw6 := Aside0.mk (blk_below (blk_alloc BFw5.out (.cells #[.bool u1, .bool u2, .bool u3, .bool u4] 23)) hb)
  have BGw6 := Aside0.mk (blk_below (blk_alloc BGw5.out (.cells #[.bool u1, .bool u2, .bool u3, .bool u4] 23)) hb)
  have HBw6 := Aside0.mk (below_step (below_alloc HBw5.out (.cells #[.bool u1, .bool u2, .bool u3, .bool u4] 23)) hb)
  clear hb
  have sFw6 : w.heap.size < w6.heap.size := blk_lt BFw6.out
  have nFw6 : ¬ w.heap.size = w6.heap.size := by omega
  have sGw6 : w2.heap.size < w6.heap.size := blk_lt BGw6.out
  have nGw6 : ¬ w2.heap.size = w6.heap.size := by omega
  have kw6F0 : w6.cell? ⟨w.heap.size, 0, none⟩ = some (.bool z) := (blk_cell BFw6.out 0).trans rfl
  have aw6F0 : ∀ o, (w6.alloc o).cell? ⟨w.heap.size, 0, none⟩ = some (.bool z) := fun o => (blk_cell (blk_alloc BFw6.out o) 0).trans rfl
  have kw6F1 : w6.cell? ⟨w.heap.size, 1, none⟩ = some (.bool n) := (blk_cell BFw6.out 1).trans rfl
  have aw6F1 : ∀ o, (w6.alloc o).cell? ⟨w.heap.size, 1, none⟩ = some (.bool n) := fun o => (blk_cell (blk_alloc BFw6.out o) 1).trans rfl
  have kw6F2 : w6.cell? ⟨w.heap.size, 2, none⟩ = some (.bool h) := (blk_cell BFw6.out 2).trans rfl
  have aw6F2 : ∀ o, (w6.alloc o).cell? ⟨w.heap.size, 2, none⟩ = some (.bool h) := fun o => (blk_cell (blk_alloc BFw6.out o) 2).trans rfl
  have kw6F3 : w6.cell? ⟨w.heap.size, 3, none⟩ = some (.bool false) := (blk_cell BFw6.out 3).trans rfl
  have aw6F3 : ∀ o, (w6.alloc o).cell? ⟨w.heap.size, 3, none⟩ = some (.bool false) := fun o => (blk_cell (blk_alloc BFw6.out o) 3).trans rfl
  go_wp2_with fail
  refine (alu_Do.calls 0 a v z n h false pl i1 i2 i3 q _ D6.out).mono ?_
  rintro e' w7 ⟨rfl, hb⟩
  have BFw7 := Aside0.mk (blk_below (blk_alloc BFw6.out (.cells #[.bool h1, .bool h2, .bool h3, .bool false] 23)) hb)
  have BGw7 := Aside0.mk (blk_below (blk_alloc BGw6.out (.cells #[.bool h1, .bool h2, .bool h3, .bool false] 23)) hb)
  have BHw7 := Aside0.mk (blk_below (blk_new w6 (.cells #[.bool h1, .bool h2, .bool h3, .bool false] 23)) hb)
  have HBw7 := Aside0.mk (below_step (below_alloc HBw6.out (.cells #[.bool h1, .bool h2, .bool h3, .bool false] 23)) hb)
  clear hb
  have sFw7 : w.heap.size < w7.heap.size := blk_lt BFw7.out
  have nFw7 : ¬ w.heap.size = w7.heap.size := by omega
  have sGw7 : w2.heap.size < w7.heap.size := blk_lt BGw7.out
  have nGw7 : ¬ w2.heap.size = w7.heap.size := by omega
  have sHw7 : w6.heap.size < w7.heap.size := blk_lt BHw7.out
  have nHw7 : ¬ w6.heap.size = w7.heap.size := by omega
  have kw7F0 : w7.cell? ⟨w.heap.size, 0, none⟩ = some (.bool z) := (blk_cell BFw7.out 0).trans rfl
  have aw7F0 : ∀ o, (w7.alloc o).cell? ⟨w.heap.size, 0, none⟩ = some (.bool z) := fun o => (blk_cell (blk_alloc BFw7.out o) 0).trans rfl
  have kw7F1 : w7.cell? ⟨w.heap.size, 1, none⟩ = some (.bool n) := (blk_cell BFw7.out 1).trans rfl
  have aw7F1 : ∀ o, (w7.alloc o).cell? ⟨w.heap.size, 1, none⟩ = some (.bool n) := fun o => (blk_cell (blk_alloc BFw7.out o) 1).trans rfl
  have kw7F2 : w7.cell? ⟨w.heap.size, 2, none⟩ = some (.bool h) := (blk_cell BFw7.out 2).trans rfl
  have aw7F2 : ∀ o, (w7.alloc o).cell? ⟨w.heap.size, 2, none⟩ = some (.bool h) := fun o => (blk_cell (blk_alloc BFw7.out o) 2).trans rfl
  have kw7F3 : w7.cell? ⟨w.heap.size, 3, none⟩ = some (.bool false) := (blk_cell BFw7.out 3).trans rfl
  have aw7F3 : ∀ o, (w7.alloc o).cell? ⟨w.heap.size, 3, none⟩ = some (.bool false) := fun o => (blk_cell (blk_alloc BFw7.out o) 3).trans rfl
  go_wp2_with fail
  refine (alu_Do.calls 7 pl a false false false false pl2 j1 j2 j3 q _ D7.out).mono ?_
  rintro e' w8 ⟨rfl, hb⟩
  have BFw8 := Aside0.mk (blk_below (blk_alloc BFw7.out (.cells #[.bool i1, .bool i2, .bool i3, .bool q] 23)) hb)
  have BGw8 := Aside0.mk (blk_below (blk_alloc BGw7.out (.cells #[.bool i1, .bool i2, .bool i3, .bool q] 23)) hb)
  have BHw8 := Aside0.mk (blk_below (blk_alloc BHw7.out (.cells #[.bool i1, .bool i2, .bool i3, .bool q] 23)) hb)
  have BIw8 := Aside0.mk (blk_below (blk_new w7 (.cells #[.bool i1, .bool i2, .bool i3, .bool q] 23)) hb)
  have HBw8 := Aside0.mk (below_step (below_alloc HBw7.out (.cells #[.bool i1, .bool i2, .bool i3, .bool q] 23)) hb)
  clear hb
  have sFw8 : w.heap.size < w8.heap.size := blk_lt BFw8.out
  have nFw8 : ¬ w.heap.size = w8.heap.size := by omega
  have sGw8 : w2.heap.size < w8.heap.size := blk_lt BGw8.out
  have nGw8 : ¬ w2.heap.size = w8.heap.size := by omega
  have sHw8 : w6.heap.size < w8.heap.size := blk_lt BHw8.out
  have nHw8 : ¬ w6.heap.size = w8.heap.size := by omega
  have sIw8 : w7.heap.size < w8.heap.size := blk_lt BIw8.out
  have nIw8 : ¬ w7.heap.size = w8.heap.size := by omega
  have kw8F0 : w8.cell? ⟨w.heap.size, 0, none⟩ = some (.bool z) := (blk_cell BFw8.out 0).trans rfl
  have aw8F0 : ∀ o, (w8.alloc o).cell? ⟨w.heap.size, 0, none⟩ = some (.bool z) := fun o => (blk_cell (blk_alloc BFw8.out o) 0).trans rfl
  have kw8F1 : w8.cell? ⟨w.heap.size, 1, none⟩ = some (.bool n) := (blk_cell BFw8.out 1).trans rfl
  have aw8F1 : ∀ o, (w8.alloc o).cell? ⟨w.heap.size, 1, none⟩ = some (.bool n) := fun o => (blk_cell (blk_alloc BFw8.out o) 1).trans rfl
  have kw8F2 : w8.cell? ⟨w.heap.size, 2, none⟩ = some (.bool h) := (blk_cell BFw8.out 2).trans rfl
  have aw8F2 : ∀ o, (w8.alloc o).cell? ⟨w.heap.size, 2, none⟩ = some (.bool h) := fun o => (blk_cell (blk_alloc BFw8.out o) 2).trans rfl
  have kw8F3 : w8.cell? ⟨w.heap.size, 3, none⟩ = some (.bool false) := (blk_cell BFw8.out 3).trans rfl
  have aw8F3 : ∀ o, (w8.alloc o).cell? ⟨w.heap.size, 3, none⟩ = some (.bool false) := fun o => (blk_cell (blk_alloc BFw8.out o) 3).trans rfl
  have kw8G0 : w8.cell? ⟨w2.heap.size, 0, none⟩ = some (.bool (s == 0)) := (blk_cell BGw8.out 0).trans rfl
  have aw8G0 : ∀ o, (w8.alloc o).cell? ⟨w2.heap.size, 0, none⟩ = some (.bool (s == 0)) := fun o => (blk_cell (blk_alloc BGw8.out o) 0).trans rfl
  have kw8G1 : w8.cell? ⟨w2.heap.size, 1, none⟩ = some (.bool g2) := (blk_cell BGw8.out 1).trans rfl
  have aw8G1 : ∀ o, (w8.alloc o).cell? ⟨w2.heap.size, 1, none⟩ = some (.bool g2) := fun o => (blk_cell (blk_alloc BGw8.out o) 1).trans rfl
  have kw8G2 : w8.cell? ⟨w2.heap.size, 2, none⟩ = some (.bool g3) := (blk_cell BGw8.out 2).trans rfl
  have aw8G2 : ∀ o, (w8.alloc o).cell? ⟨w2.heap.size, 2, none⟩ = some (.bool g3) := fun o => (blk_cell (blk_alloc BGw8.out o) 2).trans rfl
  have kw8G3 : w8.cell? ⟨w2.heap.size, 3, none⟩ = some (.bool g4) := (blk_cell BGw8.out 3).trans rfl
  have aw8G3 : ∀ o, (w8.alloc o).cell? ⟨w2.heap.size, 3, none⟩ = some (.bool g4) := fun o => (blk_cell (blk_alloc BGw8.out o) 3).trans rfl
  have kw8H0 : w8.cell? ⟨w6.heap.size, 0, none⟩ = some (.bool h1) := (blk_cell BHw8.out 0).trans rfl
  have aw8H0 : ∀ o, (w8.alloc o).cell? ⟨w6.heap.size, 0, none⟩ = some (.bool h1) := fun o => (blk_cell (blk_alloc BHw8.out o) 0).trans rfl
  have kw8H1 : w8.cell? ⟨w6.heap.size, 1, none⟩ = some (.bool h2) := (blk_cell BHw8.out 1).trans rfl
  have aw8H1 : ∀ o, (w8.alloc o).cell? ⟨w6.heap.size, 1, none⟩ = some (.bool h2) := fun o => (blk_cell (blk_alloc BHw8.out o) 1).trans rfl
  have kw8H2 : w8.cell? ⟨w6.heap.size, 2, none⟩ = some (.bool h3) := (blk_cell BHw8.out 2).trans rfl
  have aw8H2 : ∀ o, (w8.alloc o).cell? ⟨w6.heap.size, 2, none⟩ = some (.bool h3) := fun o => (blk_cell (blk_alloc BHw8.out o) 2).trans rfl
  have kw8H3 : w8.cell? ⟨w6.heap.size, 3, none⟩ = some (.bool false) := (blk_cell BHw8.out 3).trans rfl
  have aw8H3 : ∀ o, (w8.alloc o).cell? ⟨w6.heap.size, 3, none⟩ = some (.bool false) := fun o => (blk_cell (blk_alloc BHw8.out o) 3).trans rfl
  have kw8I0 : w8.cell? ⟨w7.heap.size, 0, none⟩ = some (.bool i1) := (blk_cell BIw8.out 0).trans rfl
  have aw8I0 : ∀ o, (w8.alloc o).cell? ⟨w7.heap.size, 0, none⟩ = some (.bool i1) := fun o => (blk_cell (blk_alloc BIw8.out o) 0).trans rfl
  have kw8I1 : w8.cell? ⟨w7.heap.size, 1, none⟩ = some (.bool i2) := (blk_cell BIw8.out 1).trans rfl
  have aw8I1 : ∀ o, (w8.alloc o).cell? ⟨w7.heap.size, 1, none⟩ = some (.bool i2) := fun o => (blk_cell (blk_alloc BIw8.out o) 1).trans rfl
  have kw8I2 : w8.cell? ⟨w7.heap.size, 2, none⟩ = some (.bool i3) := (blk_cell BIw8.out 2).trans rfl
  have aw8I2 : ∀ o, (w8.alloc o).cell? ⟨w7.heap.size, 2, none⟩ = some (.bool i3) := fun o => (blk_cell (blk_alloc BIw8.out o) 2).trans rfl
  have kw8I3 : w8.cell? ⟨w7.heap.size, 3, none⟩ = some (.bool q) := (blk_cell BIw8.out 3).trans rfl
  have aw8I3 : ∀ o, (w8.alloc o).cell? ⟨w7.heap.size, 3, none⟩ = some (.bool q) := fun o => (blk_cell (blk_alloc BIw8.out o) 3).trans rfl
  go_wp2_with fail
  have pF := (blk_alloc BFw8.out (.cells #[.bool j1, .bool j2, .bool j3, .bool q] 23))
  have pG := (blk_alloc BGw8.out (.cells #[.bool j1, .bool j2, .bool j3, .bool q] 23))
  have pH := (blk_alloc BHw8.out (.cells #[.bool j1, .bool j2, .bool j3, .bool q] 23))
  have pI := (blk_alloc BIw8.out (.cells #[.bool j1, .bool j2, .bool j3, .bool q] 23))
  have pJ := (blk_new w8 (.cells #[.bool j1, .bool j2, .bool j3, .bool q] 23))
  have pB := below_alloc HBw8.out (.cells #[.bool j1, .bool j2, .bool j3, .bool q] 23)
  generalize w8.alloc (.cells #[.bool j1, .bool j2, .bool j3, .bool q] 23) = W at pF pG pH pI pJ pB ⊢
  have BFW := Aside0.mk pF
  have BGW := Aside0.mk pG
  have BHW := Aside0.mk pH
  have BIW := Aside0.mk pI
  have BJW := Aside0.mk pJ
  have HBW := Aside0.mk pB
  clear pF pG pH pI pJ pB
  have tF0 : W.cell? ⟨w.heap.size, 0, none⟩ = some (.bool z) := (blk_cell BFW.out 0).trans rfl
  have tF1 : W.cell? ⟨w.heap.size, 1, none⟩ = some (.bool n) := (blk_cell BFW.out 1).trans rfl
  have tF2 : W.cell? ⟨w.heap.size, 2, none⟩ = some (.bool h) := (blk_cell BFW.out 2).trans rfl
  have tF3 : W.cell? ⟨w.heap.size, 3, none⟩ = some (.bool false) := (blk_cell BFW.out 3).trans rfl
  have tG0 : W.cell? ⟨w2.heap.size, 0, none⟩ = some (.bool (s == 0)) := (blk_cell BGW.out 0).trans rfl
  have tG1 : W.cell? ⟨w2.heap.size, 1, none⟩ = some (.bool g2) := (blk_cell BGW.out 1).trans rfl
  have tG2 : W.cell? ⟨w2.heap.size, 2, none⟩ = some (.bool g3) := (blk_cell BGW.out 2).trans rfl
  have tG3 : W.cell? ⟨w2.heap.size, 3, none⟩ = some (.bool g4) := (blk_cell BGW.out 3).trans rfl
  have tH0 : W.cell? ⟨w6.heap.size, 0, none⟩ = some (.bool h1) := (blk_cell BHW.out 0).trans rfl
  have tH1 : W.cell? ⟨w6.heap.size, 1, none⟩ = some (.bool h2) := (blk_cell BHW.out 1).trans rfl
  have tH2 : W.cell? ⟨w6.heap.size, 2, none⟩ = some (.bool h3) := (blk_cell BHW.out 2).trans rfl
  have tH3 : W.cell? ⟨w6.heap.size, 3, none⟩ = some (.bool false) := (blk_cell BHW.out 3).trans rfl
  have tI0 : W.cell? ⟨w7.heap.size, 0, none⟩ = some (.bool i1) := (blk_cell BIW.out 0).trans rfl
  have tI1 : W.cell? ⟨w7.heap.size, 1, none⟩ = some (.bool i2) := (blk_cell BIW.out 1).trans rfl
  have tI2 : W.cell? ⟨w7.heap.size, 2, none⟩ = some (.bool i3) := (blk_cell BIW.out 2).trans rfl
  have tI3 : W.cell? ⟨w7.heap.size, 3, none⟩ = some (.bool q) := (blk_cell BIW.out 3).trans rfl
  have tJ0 : W.cell? ⟨w8.heap.size, 0, none⟩ = some (.bool j1) := (blk_cell BJW.out 0).trans rfl
  have tJ1 : W.cell? ⟨w8.heap.size, 1, none⟩ = some (.bool j2) := (blk_cell BJW.out 1).trans rfl
  have tJ2 : W.cell? ⟨w8.heap.size, 2, none⟩ = some (.bool j3) := (blk_cell BJW.out 2).trans rfl
  have tJ3 : W.cell? ⟨w8.heap.size, 3, none⟩ = some (.bool q) := (blk_cell BJW.out 3).trans rfl
  go_region_held3 (fun w' => w'.cell? ⟨w.heap.size, 0, none⟩ = some (.bool z) ∧ w'.cell? ⟨w.heap.size, 1, none⟩ = some (.bool n) ∧ w'.cell? ⟨w.heap.size, 2, none⟩ = some (.bool h) ∧ w'.cell? ⟨w.heap.size, 3, none⟩ = some (.bool false) ∧ w'.cell? ⟨w2.heap.size, 0, none⟩ = some (.bool (s == 0)) ∧ w'.cell? ⟨w2.heap.size, 1, none⟩ = some (.bool g2) ∧ w'.cell? ⟨w2.heap.size, 2, none⟩ = some (.bool g3) ∧ w'.cell? ⟨w2.heap.size, 3, none⟩ = some (.bool g4) ∧ w'.cell? ⟨w6.heap.size, 0, none⟩ = some (.bool h1) ∧ w'.cell? ⟨w6.heap.size, 1, none⟩ = some (.bool h2) ∧ w'.cell? ⟨w6.heap.size, 2, none⟩ = some (.bool h3) ∧ w'.cell? ⟨w6.heap.size, 3, none⟩ = some (.bool false) ∧ w'.cell? ⟨w7.heap.size, 0, none⟩ = some (.bool i1) ∧ w'.cell? ⟨w7.heap.size, 1, none⟩ = some (.bool i2) ∧ w'.cell? ⟨w7.heap.size, 2, none⟩ = some (.bool i3) ∧ w'.cell? ⟨w7.heap.size, 3, none⟩ = some (.bool q) ∧ w'.cell? ⟨w8.heap.size, 0, none⟩ = some (.bool j1) ∧ w'.cell? ⟨w8.heap.size, 1, none⟩ = some (.bool j2) ∧ w'.cell? ⟨w8.heap.size, 2, none⟩ = some (.bool j3) ∧ w'.cell? ⟨w8.heap.size, 3, none⟩ = some (.bool q)) (go_keep)
    (first | (go_at_call 21; ((with_reducible refine (alu_Byte.calls z n h false y _ D8.out).mono ?_)); rintro e' w9 ⟨rfl, hb⟩; have NF := Aside0.mk (by first | exact blk_below (blk_drew BFW.out) hb | exact blk_below (blk_drew NF.out) hb | exact blk_below NF.out hb | exact blk_below BFW.out hb); have NG := Aside0.mk (by first | exact blk_below (blk_drew BGW.out) hb | exact blk_below (blk_drew NG.out) hb | exact blk_below NG.out hb | exact blk_below BGW.out hb); have NH := Aside0.mk (by first | exact blk_below (blk_drew BHW.out) hb | exact blk_below (blk_drew NH.out) hb | exact blk_below NH.out hb | exact blk_below BHW.out hb); have NI := Aside0.mk (by first | exact blk_below (blk_drew BIW.out) hb | exact blk_below (blk_drew NI.out) hb | exact blk_below NI.out hb | exact blk_below BIW.out hb); have NJ := Aside0.mk (by first | exact blk_below (blk_drew BJW.out) hb | exact blk_below (blk_drew NJ.out) hb | exact blk_below NJ.out hb | exact blk_below BJW.out hb); have NB := Aside0.mk (by first | exact below_step (below_drew1 HBW.out) hb | exact below_step (below_drew1 NB.out) hb | exact below_step NB.out hb | exact below_step HBW.out hb); clear hb; have vF0 : w9.cell? ⟨w.heap.size, 0, none⟩ = some (.bool z) := (blk_cell NF.out 0).trans rfl; have vF1 : w9.cell? ⟨w.heap.size, 1, none⟩ = some (.bool n) := (blk_cell NF.out 1).trans rfl; have vF2 : w9.cell? ⟨w.heap.size, 2, none⟩ = some (.bool h) := (blk_cell NF.out 2).trans rfl; have vF3 : w9.cell? ⟨w.heap.size, 3, none⟩ = some (.bool false) := (blk_cell NF.out 3).trans rfl; have vG0 : w9.cell? ⟨w2.heap.size, 0, none⟩ = some (.bool (s == 0)) := (blk_cell NG.out 0).trans rfl; have vG1 : w9.cell? ⟨w2.heap.size, 1, none⟩ = some (.bool g2) := (blk_cell NG.out 1).trans rfl; have vG2 : w9.cell? ⟨w2.heap.size, 2, none⟩ = some (.bool g3) := (blk_cell NG.out 2).trans rfl; have vG3 : w9.cell? ⟨w2.heap.size, 3, none⟩ = some (.bool g4) := (blk_cell NG.out 3).trans rfl; have vH0 : w9.cell? ⟨w6.heap.size, 0, none⟩ = some (.bool h1) := (blk_cell NH.out 0).trans rfl; have vH1 : w9.cell? ⟨w6.heap.size, 1, none⟩ = some (.bool h2) := (blk_cell NH.out 1).trans rfl; have vH2 : w9.cell? ⟨w6.heap.size, 2, none⟩ = some (.bool h3) := (blk_cell NH.out 2).trans rfl; have vH3 : w9.cell? ⟨w6.heap.size, 3, none⟩ = some (.bool false) := (blk_cell NH.out 3).trans rfl; have vI0 : w9.cell? ⟨w7.heap.size, 0, none⟩ = some (.bool i1) := (blk_cell NI.out 0).trans rfl; have vI1 : w9.cell? ⟨w7.heap.size, 1, none⟩ = some (.bool i2) := (blk_cell NI.out 1).trans rfl; have vI2 : w9.cell? ⟨w7.heap.size, 2, none⟩ = some (.bool i3) := (blk_cell NI.out 2).trans rfl; have vI3 : w9.cell? ⟨w7.heap.size, 3, none⟩ = some (.bool q) := (blk_cell NI.out 3).trans rfl; have vJ0 : w9.cell? ⟨w8.heap.size, 0, none⟩ = some (.bool j1) := (blk_cell NJ.out 0).trans rfl; have vJ1 : w9.cell? ⟨w8.heap.size, 1, none⟩ = some (.bool j2) := (blk_cell NJ.out 1).trans rfl; have vJ2 : w9.cell? ⟨w8.heap.size, 2, none⟩ = some (.bool j3) := (blk_cell NJ.out 2).trans rfl; have vJ3 : w9.cell? ⟨w8.heap.size, 3, none⟩ = some (.bool q) := (blk_cell NJ.out 3).trans rfl)
           | (go_at_call 23; ((with_reducible refine (alu_Of.calls y z n h false _ D9.out).mono ?_)); rintro e' w9 ⟨rfl, hb⟩; have NF := Aside0.mk (by first | exact blk_below (blk_drew BFW.out) hb | exact blk_below (blk_drew NF.out) hb | exact blk_below NF.out hb | exact blk_below BFW.out hb); have NG := Aside0.mk (by first | exact blk_below (blk_drew BGW.out) hb | exact blk_below (blk_drew NG.out) hb | exact blk_below NG.out hb | exact blk_below BGW.out hb); have NH := Aside0.mk (by first | exact blk_below (blk_drew BHW.out) hb | exact blk_below (blk_drew NH.out) hb | exact blk_below NH.out hb | exact blk_below BHW.out hb); have NI := Aside0.mk (by first | exact blk_below (blk_drew BIW.out) hb | exact blk_below (blk_drew NI.out) hb | exact blk_below NI.out hb | exact blk_below BIW.out hb); have NJ := Aside0.mk (by first | exact blk_below (blk_drew BJW.out) hb | exact blk_below (blk_drew NJ.out) hb | exact blk_below NJ.out hb | exact blk_below BJW.out hb); have NB := Aside0.mk (by first | exact below_step (below_drew1 HBW.out) hb | exact below_step (below_drew1 NB.out) hb | exact below_step NB.out hb | exact below_step HBW.out hb); clear hb; have vF0 : w9.cell? ⟨w.heap.size, 0, none⟩ = some (.bool z) := (blk_cell NF.out 0).trans rfl; have vF1 : w9.cell? ⟨w.heap.size, 1, none⟩ = some (.bool n) := (blk_cell NF.out 1).trans rfl; have vF2 : w9.cell? ⟨w.heap.size, 2, none⟩ = some (.bool h) := (blk_cell NF.out 2).trans rfl; have vF3 : w9.cell? ⟨w.heap.size, 3, none⟩ = some (.bool false) := (blk_cell NF.out 3).trans rfl; have vG0 : w9.cell? ⟨w2.heap.size, 0, none⟩ = some (.bool (s == 0)) := (blk_cell NG.out 0).trans rfl; have vG1 : w9.cell? ⟨w2.heap.size, 1, none⟩ = some (.bool g2) := (blk_cell NG.out 1).trans rfl; have vG2 : w9.cell? ⟨w2.heap.size, 2, none⟩ = some (.bool g3) := (blk_cell NG.out 2).trans rfl; have vG3 : w9.cell? ⟨w2.heap.size, 3, none⟩ = some (.bool g4) := (blk_cell NG.out 3).trans rfl; have vH0 : w9.cell? ⟨w6.heap.size, 0, none⟩ = some (.bool h1) := (blk_cell NH.out 0).trans rfl; have vH1 : w9.cell? ⟨w6.heap.size, 1, none⟩ = some (.bool h2) := (blk_cell NH.out 1).trans rfl; have vH2 : w9.cell? ⟨w6.heap.size, 2, none⟩ = some (.bool h3) := (blk_cell NH.out 2).trans rfl; have vH3 : w9.cell? ⟨w6.heap.size, 3, none⟩ = some (.bool false) := (blk_cell NH.out 3).trans rfl; have vI0 : w9.cell? ⟨w7.heap.size, 0, none⟩ = some (.bool i1) := (blk_cell NI.out 0).trans rfl; have vI1 : w9.cell? ⟨w7.heap.size, 1, none⟩ = some (.bool i2) := (blk_cell NI.out 1).trans rfl; have vI2 : w9.cell? ⟨w7.heap.size, 2, none⟩ = some (.bool i3) := (blk_cell NI.out 2).trans rfl; have vI3 : w9.cell? ⟨w7.heap.size, 3, none⟩ = some (.bool q) := (blk_cell NI.out 3).trans rfl; have vJ0 : w9.cell? ⟨w8.heap.size, 0, none⟩ = some (.bool j1) := (blk_cell NJ.out 0).trans rfl; have vJ1 : w9.cell? ⟨w8.heap.size, 1, none⟩ = some (.bool j2) := (blk_cell NJ.out 1).trans rfl; have vJ2 : w9.cell? ⟨w8.heap.size, 2, none⟩ = some (.bool j3) := (blk_cell NJ.out 2).trans rfl; have vJ3 : w9.cell? ⟨w8.heap.size, 3, none⟩ = some (.bool q) := (blk_cell NJ.out 3).trans rfl))
  rename_i hHeld
  clear hHeld
  go_wp2
  go_returns
  exact ⟨rfl, NB.out⟩
end Go.Proofs.Ytdfpaebbejdjlaa.Hand
