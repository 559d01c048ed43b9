/- What the proof of the statement CartPlays stands on, part 10. (Packed by pack.py out of this session's texts.) -/
import Derived.Handy
import Derived.Deep.MidRow
import Derived.StillTailTactics
import Derived.Test.YtmjjojbedllmgaaQCartPlays3
import Derived.Test.YtmjjojbedllmgaaQCartPlays6
set_option linter.unusedVariables false
set_option linter.unusedSimpArgs false
set_option maxRecDepth 100000
set_option maxHeartbeats 20000000
open Go.RowKit Go.Proofs.YtmjjojbedllmgaaW.PrintWords Go.Proofs.YtmjjojbedllmgaaW.PrintLast Go.Proofs.YtmjjojbedllmgaaW.PrintMore Go.Proofs.Ytmjjojbedllmgaa.G
namespace Go.Proofs.Ytmjjojbedllmgaa.Hand
theorem rtick_no (s : Ct) (Ai : Option Addr) (ci : Nat) (Ar : Option Addr) (cr : Nat) (hck : s.hdr.ck = false) : Puts 21 #[(⟨s, Ai, ci, Ar, cr⟩ : Rt).v] (⟨s, Ai, ci, Ar, cr⟩ : Rt).v := by
 intro w
 have BX0 := ab.mk (ao.alloc (ao.new w (⟨s, Ai, ci, Ar, cr⟩ : Rt)) (.cells [.bool false, .string ⟨#[]⟩, .int .u8 0, .int .i64 0, .bool false, .bool false, .bool false, .int .i64 0, .int .i64 0, .int .u8 0, .int .u16 0, .slice none 0 0, .slice none 0 0, .int .i64 0, .bool false, .int .u8 0, .int .u8 0, .int .u8 0, .bool false, .int .u8 0, .int .u8 0, .int .u8 0, .int .u16 0, .bool false, .bool false, .int .u8 0, .int .u8 0, .int .u8 0, .int .u16 0, .bool false, .bool false, .int .u8 0].toArray 36))
 have BZ0 := ab.mk (bF w (.cells (⟨s, Ai, ci, Ar, cr⟩ : Rt).cells.toArray 36) [.bool false, .string ⟨#[]⟩, .int .u8 0, .int .i64 0, .bool false, .bool false, .bool false, .int .i64 0, .int .i64 0, .int .u8 0, .int .u16 0, .slice none 0 0, .slice none 0 0, .int .i64 0, .bool false, .int .u8 0, .int .u8 0, .int .u8 0, .bool false, .int .u8 0, .int .u8 0, .int .u8 0, .int .u16 0, .bool false, .bool false, .int .u8 0, .int .u8 0, .int .u8 0, .int .u16 0, .bool false, .bool false, .int .u8 0] rfl)
 have HB0 := ab.mk (ac (ac (Below.refl w.heap.size w) (.cells (⟨s, Ai, ci, Ar, cr⟩ : Rt).cells.toArray 36)) (.cells [.bool false, .string ⟨#[]⟩, .int .u8 0, .int .i64 0, .bool false, .bool false, .bool false, .int .i64 0, .int .i64 0, .int .u8 0, .int .u16 0, .slice none 0 0, .slice none 0 0, .int .i64 0, .bool false, .int .u8 0, .int .u8 0, .int .u8 0, .bool false, .int .u8 0, .int .u8 0, .int .u8 0, .int .u16 0, .bool false, .bool false, .int .u8 0, .int .u8 0, .int .u8 0, .int .u16 0, .bool false, .bool false, .int .u8 0].toArray 36))
 have HCK := ab.mk hck
 clear hck
 go_enter Try.func21, Try.ntmps21
 go_wp2_with (first | ((with_reducible refine ar (N := 3) rfl ?_); have BX := BX0; have BZ := BZ0; have HB := HB0; clear BX0 BZ0 HB0; generalize (w.alloc (.cells #[.bool true, .string s.hdr.t, .int .u8 s.hdr.kd, .int .i64 s.hdr.mp, .bool s.hdr.rm, .bool s.hdr.bt, .bool s.hdr.ck, .int .i64 s.hdr.bk, .int .i64 s.hdr.sz, .int .u8 s.hdr.sm, .int .u16 s.hdr.wh, .slice Ai s.img.length ci, .slice Ar s.ram.length cr, .int .i64 s.mp.k, .bool s.mp.o, .int .u8 s.mp.l, .int .u8 s.mp.h, .int .u8 s.mp.r, .bool s.mp.md, .int .u8 s.lv.s, .int .u8 s.lv.m, .int .u8 s.lv.h, .int .u16 s.lv.d, .bool s.lv.ht, .bool s.lv.cy, .int .u8 s.hd.s, .int .u8 s.hd.m, .int .u8 s.hd.h, .int .u16 s.hd.d, .bool s.hd.ht, .bool s.hd.cy, .int .u8 s.last] 36)).alloc (.cells #[.bool false, .string ⟨#[]⟩, .int .u8 0, .int .i64 0, .bool false, .bool false, .bool false, .int .i64 0, .int .i64 0, .int .u8 0, .int .u16 0, .slice none 0 0, .slice none 0 0, .int .i64 0, .bool false, .int .u8 0, .int .u8 0, .int .u8 0, .bool false, .int .u8 0, .int .u8 0, .int .u8 0, .int .u16 0, .bool false, .bool false, .int .u8 0, .int .u8 0, .int .u8 0, .int .u16 0, .bool false, .bool false, .int .u8 0] 36) = W at BX BZ HB ⊢; have c0 : W.cell? ⟨w.heap.size, 0, none⟩ = some (.bool true) := ao.c0 BX.out; have c6 : W.cell? ⟨w.heap.size, 6, none⟩ = some (.bool false) := (ao.c6 BX.out).trans (by rw [HCK.out])) | ((with_reducible refine ar (N := 14) rfl ?_); refine wpList_load_mid rfl 36 (.tmp 1) rfl w.heap.size 0 rfl _ _ (ao.range BX.out) rfl rfl (by kernel_rfl) ?_; simp only [Act.put, List.setIfInBounds_toArray, List.set_cons_zero, List.set_cons_succ]) | ((with_reducible refine az (t := 36) (p := 2) (v := .tmp 14) rfl ?_); have y0 := ab.mk (BZ.out.fill (⟨s, Ai, ci, Ar, cr⟩ : Rt)); have y1 := ab.mk (ay HB.out (w.heap.size + 1) 0 (by omega) (⟨s, Ai, ci, Ar, cr⟩ : Rt).cells); refine wpList_store_mid rfl 36 (.tmp 2) (.tmp 14) rfl (w.heap.size + 1) 0 _ rfl rfl BZ.out.there (by kernel_rfl) (Rt.one _) ?_; generalize World.setCells _ (w.heap.size + 1) 0 _ = Y at y0 y1 ⊢; simp only [Act.put, List.setIfInBounds_toArray, List.set_cons_zero, List.set_cons_succ]))
 refine bodyPost_ret (results_cell_row rfl _ _ _ _ _ _ _ rfl y0.out rfl rfl (by kernel_rfl)) rfl ⟨rfl, y1.out⟩
theorem rtick_yes (s : Ct) (Ai : Option Addr) (ci : Nat) (Ar : Option Addr) (cr : Nat) (c : Ck) (hck : s.hdr.ck = true) (ht : Puts 47 #[.agg #[.int .u8 s.lv.s, .int .u8 s.lv.m, .int .u8 s.lv.h, .int .u16 s.lv.d, .bool s.lv.ht, .bool s.lv.cy]] (.agg #[.int .u8 c.s, .int .u8 c.m, .int .u8 c.h, .int .u16 c.d, .bool c.ht, .bool c.cy])) : Puts 21 #[(⟨s, Ai, ci, Ar, cr⟩ : Rt).v] (⟨{ s with lv := c }, Ai, ci, Ar, cr⟩ : Rt).v := by
 intro w
 have BX0 := ab.mk (ao.alloc (ao.new w (⟨s, Ai, ci, Ar, cr⟩ : Rt)) (.cells [.bool false, .string ⟨#[]⟩, .int .u8 0, .int .i64 0, .bool false, .bool false, .bool false, .int .i64 0, .int .i64 0, .int .u8 0, .int .u16 0, .slice none 0 0, .slice none 0 0, .int .i64 0, .bool false, .int .u8 0, .int .u8 0, .int .u8 0, .bool false, .int .u8 0, .int .u8 0, .int .u8 0, .int .u16 0, .bool false, .bool false, .int .u8 0, .int .u8 0, .int .u8 0, .int .u16 0, .bool false, .bool false, .int .u8 0].toArray 36))
 have BZ0 := ab.mk (bF w (.cells (⟨s, Ai, ci, Ar, cr⟩ : Rt).cells.toArray 36) [.bool false, .string ⟨#[]⟩, .int .u8 0, .int .i64 0, .bool false, .bool false, .bool false, .int .i64 0, .int .i64 0, .int .u8 0, .int .u16 0, .slice none 0 0, .slice none 0 0, .int .i64 0, .bool false, .int .u8 0, .int .u8 0, .int .u8 0, .bool false, .int .u8 0, .int .u8 0, .int .u8 0, .int .u16 0, .bool false, .bool false, .int .u8 0, .int .u8 0, .int .u8 0, .int .u16 0, .bool false, .bool false, .int .u8 0] rfl)
 have HB0 := ab.mk (ac (ac (Below.refl w.heap.size w) (.cells (⟨s, Ai, ci, Ar, cr⟩ : Rt).cells.toArray 36)) (.cells [.bool false, .string ⟨#[]⟩, .int .u8 0, .int .i64 0, .bool false, .bool false, .bool false, .int .i64 0, .int .i64 0, .int .u8 0, .int .u16 0, .slice none 0 0, .slice none 0 0, .int .i64 0, .bool false, .int .u8 0, .int .u8 0, .int .u8 0, .bool false, .int .u8 0, .int .u8 0, .int .u8 0, .int .u16 0, .bool false, .bool false, .int .u8 0, .int .u8 0, .int .u8 0, .int .u16 0, .bool false, .bool false, .int .u8 0].toArray 36))
 have HCK := ab.mk hck
 clear hck
 go_enter Try.func21, Try.ntmps21
 go_wp2_with (first | ((with_reducible refine ar (N := 3) rfl ?_); have BX := BX0; have BZ := BZ0; have HB := HB0; clear BX0 BZ0 HB0; generalize (w.alloc (.cells #[.bool true, .string s.hdr.t, .int .u8 s.hdr.kd, .int .i64 s.hdr.mp, .bool s.hdr.rm, .bool s.hdr.bt, .bool s.hdr.ck, .int .i64 s.hdr.bk, .int .i64 s.hdr.sz, .int .u8 s.hdr.sm, .int .u16 s.hdr.wh, .slice Ai s.img.length ci, .slice Ar s.ram.length cr, .int .i64 s.mp.k, .bool s.mp.o, .int .u8 s.mp.l, .int .u8 s.mp.h, .int .u8 s.mp.r, .bool s.mp.md, .int .u8 s.lv.s, .int .u8 s.lv.m, .int .u8 s.lv.h, .int .u16 s.lv.d, .bool s.lv.ht, .bool s.lv.cy, .int .u8 s.hd.s, .int .u8 s.hd.m, .int .u8 s.hd.h, .int .u16 s.hd.d, .bool s.hd.ht, .bool s.hd.cy, .int .u8 s.last] 36)).alloc (.cells #[.bool false, .string ⟨#[]⟩, .int .u8 0, .int .i64 0, .bool false, .bool false, .bool false, .int .i64 0, .int .i64 0, .int .u8 0, .int .u16 0, .slice none 0 0, .slice none 0 0, .int .i64 0, .bool false, .int .u8 0, .int .u8 0, .int .u8 0, .bool false, .int .u8 0, .int .u8 0, .int .u8 0, .int .u16 0, .bool false, .bool false, .int .u8 0, .int .u8 0, .int .u8 0, .int .u16 0, .bool false, .bool false, .int .u8 0] 36) = W at BX BZ HB ⊢; have c0 : W.cell? ⟨w.heap.size, 0, none⟩ = some (.bool true) := ao.c0 BX.out; have c19 : W.cell? ⟨w.heap.size, 19, none⟩ = some (.int .u8 s.lv.s) := ao.c19 BX.out; have c20 : W.cell? ⟨w.heap.size, 20, none⟩ = some (.int .u8 s.lv.m) := ao.c20 BX.out; have c21 : W.cell? ⟨w.heap.size, 21, none⟩ = some (.int .u8 s.lv.h) := ao.c21 BX.out; have c22 : W.cell? ⟨w.heap.size, 22, none⟩ = some (.int .u16 s.lv.d) := ao.c22 BX.out; have c23 : W.cell? ⟨w.heap.size, 23, none⟩ = some (.bool s.lv.ht) := ao.c23 BX.out; have c24 : W.cell? ⟨w.heap.size, 24, none⟩ = some (.bool s.lv.cy) := ao.c24 BX.out; have c6 : W.cell? ⟨w.heap.size, 6, none⟩ = some (.bool true) := (ao.c6 BX.out).trans (by rw [HCK.out])))
 clear c0 c6
 refine (ht _).mono ?_
 rintro e' w1 ⟨rfl, hb⟩
 have b_ := ab.mk (BX.out.below hb)
 have z_ := ab.mk (BZ.out.below hb)
 have h_ := ab.mk (ak HB.out hb)
 clear BX BZ HB hb
 have BX := b_
 have BZ := z_
 have HB := h_
 clear b_ z_ h_
 clear c19 c20 c21 c22 c23 c24
 go_wp2_with (first | ((with_reducible refine az (t := 34) (p := 13) (v := .tmp 12) rfl ?_); have b_ := ab.mk (BX.out.setL c); have z_ := ab.mk (BZ.out.far (g := w.heap.size) (by omega) 19 [.int .u8 c.s, .int .u8 c.m, .int .u8 c.h, .int .u16 c.d, .bool c.ht, .bool c.cy]); have h_ := ab.mk (ay HB.out w.heap.size 19 (by omega) [.int .u8 c.s, .int .u8 c.m, .int .u8 c.h, .int .u16 c.d, .bool c.ht, .bool c.cy]); refine wpList_store_mid rfl 34 (.tmp 13) (.tmp 12) rfl w.heap.size 19 _ rfl rfl (BX.out.thereAt 19 6 (by decide)) (by kernel_rfl) (by simp [Value.oneCell']) ?_; clear BX BZ HB; have BX := b_; have BZ := z_; have HB := h_; clear b_ z_ h_; generalize World.setCells _ w.heap.size 19 _ = W2 at BX BZ HB ⊢; simp only [Act.put, List.setIfInBounds_toArray, List.set_cons_zero, List.set_cons_succ]) | ((with_reducible refine ar (N := 14) rfl ?_); refine wpList_load_mid rfl 36 (.tmp 1) rfl w.heap.size 0 rfl _ _ (ao.range BX.out) rfl rfl (by kernel_rfl) ?_; simp only [Act.put, List.setIfInBounds_toArray, List.set_cons_zero, List.set_cons_succ]) | ((with_reducible refine az (t := 36) (p := 2) (v := .tmp 14) rfl ?_); have y0 := ab.mk (BZ.out.fill (⟨{ s with lv := c }, Ai, ci, Ar, cr⟩ : Rt)); have y1 := ab.mk (ay HB.out (w.heap.size + 1) 0 (by omega) (⟨{ s with lv := c }, Ai, ci, Ar, cr⟩ : Rt).cells); refine wpList_store_mid rfl 36 (.tmp 2) (.tmp 14) rfl (w.heap.size + 1) 0 _ rfl rfl BZ.out.there (by kernel_rfl) (Rt.one _) ?_; generalize World.setCells _ (w.heap.size + 1) 0 _ = Y at y0 y1 ⊢; simp only [Act.put, List.setIfInBounds_toArray, List.set_cons_zero, List.set_cons_succ]))
 refine bodyPost_ret (results_cell_row rfl _ _ _ _ _ _ _ rfl y0.out rfl rfl (by kernel_rfl)) rfl ⟨rfl, y1.out⟩
theorem rwrite_lo (s : Ct) (Ai : Option Addr) (ci : Nat) (Ar : Option Addr) (cr : Nat) (ad v : Int) (m : Mp) (hlo : decide (ad < 32768) = true) (hck : s.hdr.ck = false) (hw : Puts 44 #[.agg #[.int .i64 s.mp.k, .bool s.mp.o, .int .u8 s.mp.l, .int .u8 s.mp.h, .int .u8 s.mp.r, .bool s.mp.md], .int .u16 ad, .int .u8 v] (.agg #[.int .i64 m.k, .bool m.o, .int .u8 m.l, .int .u8 m.h, .int .u8 m.r, .bool m.md])) : Puts 19 #[(⟨s, Ai, ci, Ar, cr⟩ : Rt).v, .int .u16 ad, .int .u8 v] (⟨{ s with mp := m }, Ai, ci, Ar, cr⟩ : Rt).v := by
 intro w
 have BX0 := ab.mk (ao.alloc (ao.new w (⟨s, Ai, ci, Ar, cr⟩ : Rt)) (.cells [.bool false, .string ⟨#[]⟩, .int .u8 0, .int .i64 0, .bool false, .bool false, .bool false, .int .i64 0, .int .i64 0, .int .u8 0, .int .u16 0, .slice none 0 0, .slice none 0 0, .int .i64 0, .bool false, .int .u8 0, .int .u8 0, .int .u8 0, .bool false, .int .u8 0, .int .u8 0, .int .u8 0, .int .u16 0, .bool false, .bool false, .int .u8 0, .int .u8 0, .int .u8 0, .int .u16 0, .bool false, .bool false, .int .u8 0].toArray 36))
 have BZ0 := ab.mk (bF w (.cells (⟨s, Ai, ci, Ar, cr⟩ : Rt).cells.toArray 36) [.bool false, .string ⟨#[]⟩, .int .u8 0, .int .i64 0, .bool false, .bool false, .bool false, .int .i64 0, .int .i64 0, .int .u8 0, .int .u16 0, .slice none 0 0, .slice none 0 0, .int .i64 0, .bool false, .int .u8 0, .int .u8 0, .int .u8 0, .bool false, .int .u8 0, .int .u8 0, .int .u8 0, .int .u16 0, .bool false, .bool false, .int .u8 0, .int .u8 0, .int .u8 0, .int .u16 0, .bool false, .bool false, .int .u8 0] rfl)
 have HB0 := ab.mk (ac (ac (Below.refl w.heap.size w) (.cells (⟨s, Ai, ci, Ar, cr⟩ : Rt).cells.toArray 36)) (.cells [.bool false, .string ⟨#[]⟩, .int .u8 0, .int .i64 0, .bool false, .bool false, .bool false, .int .i64 0, .int .i64 0, .int .u8 0, .int .u16 0, .slice none 0 0, .slice none 0 0, .int .i64 0, .bool false, .int .u8 0, .int .u8 0, .int .u8 0, .bool false, .int .u8 0, .int .u8 0, .int .u8 0, .int .u16 0, .bool false, .bool false, .int .u8 0, .int .u8 0, .int .u8 0, .int .u16 0, .bool false, .bool false, .int .u8 0].toArray 36))
 have HCK := ab.mk hck
 clear hck
 go_enter Try.func19, Try.ntmps19
 go_wp2_with (first | ((with_reducible refine ar (N := 9) rfl ?_); have BX := BX0; have BZ := BZ0; have HB := HB0; clear BX0 BZ0 HB0; generalize (w.alloc (.cells #[.bool true, .string s.hdr.t, .int .u8 s.hdr.kd, .int .i64 s.hdr.mp, .bool s.hdr.rm, .bool s.hdr.bt, .bool s.hdr.ck, .int .i64 s.hdr.bk, .int .i64 s.hdr.sz, .int .u8 s.hdr.sm, .int .u16 s.hdr.wh, .slice Ai s.img.length ci, .slice Ar s.ram.length cr, .int .i64 s.mp.k, .bool s.mp.o, .int .u8 s.mp.l, .int .u8 s.mp.h, .int .u8 s.mp.r, .bool s.mp.md, .int .u8 s.lv.s, .int .u8 s.lv.m, .int .u8 s.lv.h, .int .u16 s.lv.d, .bool s.lv.ht, .bool s.lv.cy, .int .u8 s.hd.s, .int .u8 s.hd.m, .int .u8 s.hd.h, .int .u16 s.hd.d, .bool s.hd.ht, .bool s.hd.cy, .int .u8 s.last] 36)).alloc (.cells #[.bool false, .string ⟨#[]⟩, .int .u8 0, .int .i64 0, .bool false, .bool false, .bool false, .int .i64 0, .int .i64 0, .int .u8 0, .int .u16 0, .slice none 0 0, .slice none 0 0, .int .i64 0, .bool false, .int .u8 0, .int .u8 0, .int .u8 0, .bool false, .int .u8 0, .int .u8 0, .int .u8 0, .int .u16 0, .bool false, .bool false, .int .u8 0, .int .u8 0, .int .u8 0, .int .u16 0, .bool false, .bool false, .int .u8 0] 36) = W at BX BZ HB ⊢; have c0 : W.cell? ⟨w.heap.size, 0, none⟩ = some (.bool true) := ao.c0 BX.out; have c13 : W.cell? ⟨w.heap.size, 13, none⟩ = some (.int .i64 s.mp.k) := ao.c13 BX.out; have c14 : W.cell? ⟨w.heap.size, 14, none⟩ = some (.bool s.mp.o) := ao.c14 BX.out; have c15 : W.cell? ⟨w.heap.size, 15, none⟩ = some (.int .u8 s.mp.l) := ao.c15 BX.out; have c16 : W.cell? ⟨w.heap.size, 16, none⟩ = some (.int .u8 s.mp.h) := ao.c16 BX.out; have c17 : W.cell? ⟨w.heap.size, 17, none⟩ = some (.int .u8 s.mp.r) := ao.c17 BX.out; have c18 : W.cell? ⟨w.heap.size, 18, none⟩ = some (.bool s.mp.md) := ao.c18 BX.out))
 clear c0
 refine (hw _).mono ?_
 rintro e' w1 ⟨rfl, hb⟩
 have b_ := ab.mk (BX.out.below hb)
 have z_ := ab.mk (BZ.out.below hb)
 have h_ := ab.mk (ak HB.out hb)
 clear BX BZ HB hb
 have BX := b_
 have BZ := z_
 have HB := h_
 clear b_ z_ h_
 clear c13 c14 c15 c16 c17 c18
 go_wp2_with (first | ((with_reducible refine az (t := 32) (p := 20) (v := .tmp 19) rfl ?_); have b_ := ab.mk (BX.out.setM m); have z_ := ab.mk (BZ.out.far (g := w.heap.size) (by omega) 13 [.int .i64 m.k, .bool m.o, .int .u8 m.l, .int .u8 m.h, .int .u8 m.r, .bool m.md]); have h_ := ab.mk (ay HB.out w.heap.size 13 (by omega) [.int .i64 m.k, .bool m.o, .int .u8 m.l, .int .u8 m.h, .int .u8 m.r, .bool m.md]); refine wpList_store_mid rfl 32 (.tmp 20) (.tmp 19) rfl w.heap.size 13 _ rfl rfl (BX.out.thereAt 13 6 (by decide)) (by kernel_rfl) (by simp [Value.oneCell']) ?_; clear BX BZ HB; have BX := b_; have BZ := z_; have HB := h_; clear b_ z_ h_; generalize World.setCells _ w.heap.size 13 _ = W2 at BX BZ HB ⊢; have c6 : W2.cell? ⟨w.heap.size, 6, none⟩ = some (.bool false) := (ao.c6 BX.out).trans (by show some (Value.bool s.hdr.ck) = _; rw [HCK.out]); simp only [Act.put, List.setIfInBounds_toArray, List.set_cons_zero, List.set_cons_succ]) | ((with_reducible refine ar (N := 40) rfl ?_); refine wpList_load_mid rfl 36 (.tmp 3) rfl w.heap.size 0 rfl _ _ (ao.range BX.out) rfl rfl (by kernel_rfl) ?_; simp only [Act.put, List.setIfInBounds_toArray, List.set_cons_zero, List.set_cons_succ]) | ((with_reducible refine az (t := 36) (p := 6) (v := .tmp 40) rfl ?_); have y0 := ab.mk (BZ.out.fill (⟨{ s with mp := m }, Ai, ci, Ar, cr⟩ : Rt)); have y1 := ab.mk (ay HB.out (w.heap.size + 1) 0 (by omega) (⟨{ s with mp := m }, Ai, ci, Ar, cr⟩ : Rt).cells); refine wpList_store_mid rfl 36 (.tmp 6) (.tmp 40) rfl (w.heap.size + 1) 0 _ rfl rfl BZ.out.there (by kernel_rfl) (Rt.one _) ?_; generalize World.setCells _ (w.heap.size + 1) 0 _ = Y at y0 y1 ⊢; simp only [Act.put, List.setIfInBounds_toArray, List.set_cons_zero, List.set_cons_succ]))
 refine bodyPost_ret (results_cell_row rfl _ _ _ _ _ _ _ rfl y0.out rfl rfl (by kernel_rfl)) rfl ⟨rfl, y1.out⟩
theorem rwrite_lo2 (s : Ct) (Ai : Option Addr) (ci : Nat) (Ar : Option Addr) (cr : Nat) (ad v : Int) (m : Mp) (hlo : decide (ad < 32768) = true) (hck : s.hdr.ck = true) (hhi : decide (24576 ≤ ad) = false) (hw : Puts 44 #[.agg #[.int .i64 s.mp.k, .bool s.mp.o, .int .u8 s.mp.l, .int .u8 s.mp.h, .int .u8 s.mp.r, .bool s.mp.md], .int .u16 ad, .int .u8 v] (.agg #[.int .i64 m.k, .bool m.o, .int .u8 m.l, .int .u8 m.h, .int .u8 m.r, .bool m.md])) : Puts 19 #[(⟨s, Ai, ci, Ar, cr⟩ : Rt).v, .int .u16 ad, .int .u8 v] (⟨{ s with mp := m }, Ai, ci, Ar, cr⟩ : Rt).v := by
 intro w
 have BX0 := ab.mk (ao.alloc (ao.new w (⟨s, Ai, ci, Ar, cr⟩ : Rt)) (.cells [.bool false, .string ⟨#[]⟩, .int .u8 0, .int .i64 0, .bool false, .bool false, .bool false, .int .i64 0, .int .i64 0, .int .u8 0, .int .u16 0, .slice none 0 0, .slice none 0 0, .int .i64 0, .bool false, .int .u8 0, .int .u8 0, .int .u8 0, .bool false, .int .u8 0, .int .u8 0, .int .u8 0, .int .u16 0, .bool false, .bool false, .int .u8 0, .int .u8 0, .int .u8 0, .int .u16 0, .bool false, .bool false, .int .u8 0].toArray 36))
 have BZ0 := ab.mk (bF w (.cells (⟨s, Ai, ci, Ar, cr⟩ : Rt).cells.toArray 36) [.bool false, .string ⟨#[]⟩, .int .u8 0, .int .i64 0, .bool false, .bool false, .bool false, .int .i64 0, .int .i64 0, .int .u8 0, .int .u16 0, .slice none 0 0, .slice none 0 0, .int .i64 0, .bool false, .int .u8 0, .int .u8 0, .int .u8 0, .bool false, .int .u8 0, .int .u8 0, .int .u8 0, .int .u16 0, .bool false, .bool false, .int .u8 0, .int .u8 0, .int .u8 0, .int .u16 0, .bool false, .bool false, .int .u8 0] rfl)
 have HB0 := ab.mk (ac (ac (Below.refl w.heap.size w) (.cells (⟨s, Ai, ci, Ar, cr⟩ : Rt).cells.toArray 36)) (.cells [.bool false, .string ⟨#[]⟩, .int .u8 0, .int .i64 0, .bool false, .bool false, .bool false, .int .i64 0, .int .i64 0, .int .u8 0, .int .u16 0, .slice none 0 0, .slice none 0 0, .int .i64 0, .bool false, .int .u8 0, .int .u8 0, .int .u8 0, .bool false, .int .u8 0, .int .u8 0, .int .u8 0, .int .u16 0, .bool false, .bool false, .int .u8 0, .int .u8 0, .int .u8 0, .int .u16 0, .bool false, .bool false, .int .u8 0].toArray 36))
 have HCK := ab.mk hck
 clear hck
 go_enter Try.func19, Try.ntmps19
 go_wp2_with (first | ((with_reducible refine ar (N := 9) rfl ?_); have BX := BX0; have BZ := BZ0; have HB := HB0; clear BX0 BZ0 HB0; generalize (w.alloc (.cells #[.bool true, .string s.hdr.t, .int .u8 s.hdr.kd, .int .i64 s.hdr.mp, .bool s.hdr.rm, .bool s.hdr.bt, .bool s.hdr.ck, .int .i64 s.hdr.bk, .int .i64 s.hdr.sz, .int .u8 s.hdr.sm, .int .u16 s.hdr.wh, .slice Ai s.img.length ci, .slice Ar s.ram.length cr, .int .i64 s.mp.k, .bool s.mp.o, .int .u8 s.mp.l, .int .u8 s.mp.h, .int .u8 s.mp.r, .bool s.mp.md, .int .u8 s.lv.s, .int .u8 s.lv.m, .int .u8 s.lv.h, .int .u16 s.lv.d, .bool s.lv.ht, .bool s.lv.cy, .int .u8 s.hd.s, .int .u8 s.hd.m, .int .u8 s.hd.h, .int .u16 s.hd.d, .bool s.hd.ht, .bool s.hd.cy, .int .u8 s.last] 36)).alloc (.cells #[.bool false, .string ⟨#[]⟩, .int .u8 0, .int .i64 0, .bool false, .bool false, .bool false, .int .i64 0, .int .i64 0, .int .u8 0, .int .u16 0, .slice none 0 0, .slice none 0 0, .int .i64 0, .bool false, .int .u8 0, .int .u8 0, .int .u8 0, .bool false, .int .u8 0, .int .u8 0, .int .u8 0, .int .u16 0, .bool false, .bool false, .int .u8 0, .int .u8 0, .int .u8 0, .int .u16 0, .bool false, .bool false, .int .u8 0] 36) = W at BX BZ HB ⊢; have c0 : W.cell? ⟨w.heap.size, 0, none⟩ = some (.bool true) := ao.c0 BX.out; have c13 : W.cell? ⟨w.heap.size, 13, none⟩ = some (.int .i64 s.mp.k) := ao.c13 BX.out; have c14 : W.cell? ⟨w.heap.size, 14, none⟩ = some (.bool s.mp.o) := ao.c14 BX.out; have c15 : W.cell? ⟨w.heap.size, 15, none⟩ = some (.int .u8 s.mp.l) := ao.c15 BX.out; have c16 : W.cell? ⟨w.heap.size, 16, none⟩ = some (.int .u8 s.mp.h) := ao.c16 BX.out; have c17 : W.cell? ⟨w.heap.size, 17, none⟩ = some (.int .u8 s.mp.r) := ao.c17 BX.out; have c18 : W.cell? ⟨w.heap.size, 18, none⟩ = some (.bool s.mp.md) := ao.c18 BX.out))
 clear c0
 refine (hw _).mono ?_
 rintro e' w1 ⟨rfl, hb⟩
 have b_ := ab.mk (BX.out.below hb)
 have z_ := ab.mk (BZ.out.below hb)
 have h_ := ab.mk (ak HB.out hb)
 clear BX BZ HB hb
 have BX := b_
 have BZ := z_
 have HB := h_
 clear b_ z_ h_
 clear c13 c14 c15 c16 c17 c18
 go_wp2_with (first | ((with_reducible refine az (t := 32) (p := 20) (v := .tmp 19) rfl ?_); have b_ := ab.mk (BX.out.setM m); have z_ := ab.mk (BZ.out.far (g := w.heap.size) (by omega) 13 [.int .i64 m.k, .bool m.o, .int .u8 m.l, .int .u8 m.h, .int .u8 m.r, .bool m.md]); have h_ := ab.mk (ay HB.out w.heap.size 13 (by omega) [.int .i64 m.k, .bool m.o, .int .u8 m.l, .int .u8 m.h, .int .u8 m.r, .bool m.md]); refine wpList_store_mid rfl 32 (.tmp 20) (.tmp 19) rfl w.heap.size 13 _ rfl rfl (BX.out.thereAt 13 6 (by decide)) (by kernel_rfl) (by simp [Value.oneCell']) ?_; clear BX BZ HB; have BX := b_; have BZ := z_; have HB := h_; clear b_ z_ h_; generalize World.setCells _ w.heap.size 13 _ = W2 at BX BZ HB ⊢; have c6 : W2.cell? ⟨w.heap.size, 6, none⟩ = some (.bool true) := (ao.c6 BX.out).trans (by show some (Value.bool s.hdr.ck) = _; rw [HCK.out]); simp only [Act.put, List.setIfInBounds_toArray, List.set_cons_zero, List.set_cons_succ]) | ((with_reducible refine ar (N := 40) rfl ?_); refine wpList_load_mid rfl 36 (.tmp 3) rfl w.heap.size 0 rfl _ _ (ao.range BX.out) rfl rfl (by kernel_rfl) ?_; simp only [Act.put, List.setIfInBounds_toArray, List.set_cons_zero, List.set_cons_succ]) | ((with_reducible refine az (t := 36) (p := 6) (v := .tmp 40) rfl ?_); have y0 := ab.mk (BZ.out.fill (⟨{ s with mp := m }, Ai, ci, Ar, cr⟩ : Rt)); have y1 := ab.mk (ay HB.out (w.heap.size + 1) 0 (by omega) (⟨{ s with mp := m }, Ai, ci, Ar, cr⟩ : Rt).cells); refine wpList_store_mid rfl 36 (.tmp 6) (.tmp 40) rfl (w.heap.size + 1) 0 _ rfl rfl BZ.out.there (by kernel_rfl) (Rt.one _) ?_; generalize World.setCells _ (w.heap.size + 1) 0 _ = Y at y0 y1 ⊢; simp only [Act.put, List.setIfInBounds_toArray, List.set_cons_zero, List.set_cons_succ]))
 refine bodyPost_ret (results_cell_row rfl _ _ _ _ _ _ _ rfl y0.out rfl rfl (by kernel_rfl)) rfl ⟨rfl, y1.out⟩
theorem rwrite_l0 (s : Ct) (Ai : Option Addr) (ci : Nat) (Ar : Option Addr) (cr : Nat) (ad v : Int) (m : Mp) (hlo : decide (ad < 32768) = true) (hck : s.hdr.ck = true) (hhi : decide (24576 ≤ ad) = true) (hv : (v == 1) = false) (hw : Puts 44 #[.agg #[.int .i64 s.mp.k, .bool s.mp.o, .int .u8 s.mp.l, .int .u8 s.mp.h, .int .u8 s.mp.r, .bool s.mp.md], .int .u16 ad, .int .u8 v] (.agg #[.int .i64 m.k, .bool m.o, .int .u8 m.l, .int .u8 m.h, .int .u8 m.r, .bool m.md])) : Puts 19 #[(⟨s, Ai, ci, Ar, cr⟩ : Rt).v, .int .u16 ad, .int .u8 v] (⟨{ s with mp := m, last := v }, Ai, ci, Ar, cr⟩ : Rt).v := by
 intro w
 have BX0 := ab.mk (ao.alloc (ao.new w (⟨s, Ai, ci, Ar, cr⟩ : Rt)) (.cells [.bool false, .string ⟨#[]⟩, .int .u8 0, .int .i64 0, .bool false, .bool false, .bool false, .int .i64 0, .int .i64 0, .int .u8 0, .int .u16 0, .slice none 0 0, .slice none 0 0, .int .i64 0, .bool false, .int .u8 0, .int .u8 0, .int .u8 0, .bool false, .int .u8 0, .int .u8 0, .int .u8 0, .int .u16 0, .bool false, .bool false, .int .u8 0, .int .u8 0, .int .u8 0, .int .u16 0, .bool false, .bool false, .int .u8 0].toArray 36))
 have BZ0 := ab.mk (bF w (.cells (⟨s, Ai, ci, Ar, cr⟩ : Rt).cells.toArray 36) [.bool false, .string ⟨#[]⟩, .int .u8 0, .int .i64 0, .bool false, .bool false, .bool false, .int .i64 0, .int .i64 0, .int .u8 0, .int .u16 0, .slice none 0 0, .slice none 0 0, .int .i64 0, .bool false, .int .u8 0, .int .u8 0, .int .u8 0, .bool false, .int .u8 0, .int .u8 0, .int .u8 0, .int .u16 0, .bool false, .bool false, .int .u8 0, .int .u8 0, .int .u8 0, .int .u16 0, .bool false, .bool false, .int .u8 0] rfl)
 have HB0 := ab.mk (ac (ac (Below.refl w.heap.size w) (.cells (⟨s, Ai, ci, Ar, cr⟩ : Rt).cells.toArray 36)) (.cells [.bool false, .string ⟨#[]⟩, .int .u8 0, .int .i64 0, .bool false, .bool false, .bool false, .int .i64 0, .int .i64 0, .int .u8 0, .int .u16 0, .slice none 0 0, .slice none 0 0, .int .i64 0, .bool false, .int .u8 0, .int .u8 0, .int .u8 0, .bool false, .int .u8 0, .int .u8 0, .int .u8 0, .int .u16 0, .bool false, .bool false, .int .u8 0, .int .u8 0, .int .u8 0, .int .u16 0, .bool false, .bool false, .int .u8 0].toArray 36))
 have HCK := ab.mk hck
 clear hck
 go_enter Try.func19, Try.ntmps19
 go_wp2_with (first | ((with_reducible refine ar (N := 9) rfl ?_); have BX := BX0; have BZ := BZ0; have HB := HB0; clear BX0 BZ0 HB0; generalize (w.alloc (.cells #[.bool true, .string s.hdr.t, .int .u8 s.hdr.kd, .int .i64 s.hdr.mp, .bool s.hdr.rm, .bool s.hdr.bt, .bool s.hdr.ck, .int .i64 s.hdr.bk, .int .i64 s.hdr.sz, .int .u8 s.hdr.sm, .int .u16 s.hdr.wh, .slice Ai s.img.length ci, .slice Ar s.ram.length cr, .int .i64 s.mp.k, .bool s.mp.o, .int .u8 s.mp.l, .int .u8 s.mp.h, .int .u8 s.mp.r, .bool s.mp.md, .int .u8 s.lv.s, .int .u8 s.lv.m, .int .u8 s.lv.h, .int .u16 s.lv.d, .bool s.lv.ht, .bool s.lv.cy, .int .u8 s.hd.s, .int .u8 s.hd.m, .int .u8 s.hd.h, .int .u16 s.hd.d, .bool s.hd.ht, .bool s.hd.cy, .int .u8 s.last] 36)).alloc (.cells #[.bool false, .string ⟨#[]⟩, .int .u8 0, .int .i64 0, .bool false, .bool false, .bool false, .int .i64 0, .int .i64 0, .int .u8 0, .int .u16 0, .slice none 0 0, .slice none 0 0, .int .i64 0, .bool false, .int .u8 0, .int .u8 0, .int .u8 0, .bool false, .int .u8 0, .int .u8 0, .int .u8 0, .int .u16 0, .bool false, .bool false, .int .u8 0, .int .u8 0, .int .u8 0, .int .u16 0, .bool false, .bool false, .int .u8 0] 36) = W at BX BZ HB ⊢; have c0 : W.cell? ⟨w.heap.size, 0, none⟩ = some (.bool true) := ao.c0 BX.out; have c13 : W.cell? ⟨w.heap.size, 13, none⟩ = some (.int .i64 s.mp.k) := ao.c13 BX.out; have c14 : W.cell? ⟨w.heap.size, 14, none⟩ = some (.bool s.mp.o) := ao.c14 BX.out; have c15 : W.cell? ⟨w.heap.size, 15, none⟩ = some (.int .u8 s.mp.l) := ao.c15 BX.out; have c16 : W.cell? ⟨w.heap.size, 16, none⟩ = some (.int .u8 s.mp.h) := ao.c16 BX.out; have c17 : W.cell? ⟨w.heap.size, 17, none⟩ = some (.int .u8 s.mp.r) := ao.c17 BX.out; have c18 : W.cell? ⟨w.heap.size, 18, none⟩ = some (.bool s.mp.md) := ao.c18 BX.out))
 clear c0
 refine (hw _).mono ?_
 rintro e' w1 ⟨rfl, hb⟩
 have b_ := ab.mk (BX.out.below hb)
 have z_ := ab.mk (BZ.out.below hb)
 have h_ := ab.mk (ak HB.out hb)
 clear BX BZ HB hb
 have BX := b_
 have BZ := z_
 have HB := h_
 clear b_ z_ h_
 clear c13 c14 c15 c16 c17 c18
 go_wp2_with (first | ((with_reducible refine az (t := 32) (p := 20) (v := .tmp 19) rfl ?_); have b_ := ab.mk (BX.out.setM m); have z_ := ab.mk (BZ.out.far (g := w.heap.size) (by omega) 13 [.int .i64 m.k, .bool m.o, .int .u8 m.l, .int .u8 m.h, .int .u8 m.r, .bool m.md]); have h_ := ab.mk (ay HB.out w.heap.size 13 (by omega) [.int .i64 m.k, .bool m.o, .int .u8 m.l, .int .u8 m.h, .int .u8 m.r, .bool m.md]); refine wpList_store_mid rfl 32 (.tmp 20) (.tmp 19) rfl w.heap.size 13 _ rfl rfl (BX.out.thereAt 13 6 (by decide)) (by kernel_rfl) (by simp [Value.oneCell']) ?_; clear BX BZ HB; have BX := b_; have BZ := z_; have HB := h_; clear b_ z_ h_; generalize World.setCells _ w.heap.size 13 _ = W2 at BX BZ HB ⊢; have c6 : W2.cell? ⟨w.heap.size, 6, none⟩ = some (.bool true) := (ao.c6 BX.out).trans (by show some (Value.bool s.hdr.ck) = _; rw [HCK.out]); have fz31 : W2.frozen? ⟨w.heap.size, 31, none⟩ = false := ao.frozen BX.out 31; have c31 : W2.cell? ⟨w.heap.size, 31, none⟩ = some (.int .u8 s.last) := ao.c31 BX.out; simp only [Act.put, List.setIfInBounds_toArray, List.set_cons_zero, List.set_cons_succ]) | ((with_reducible refine ar (N := 40) rfl ?_); have b_ := ab.mk (BX.out.last v); have z_ := ab.mk (BZ.out.far1 (g := w.heap.size) (by omega) 31 (.int .u8 v)); have h_ := ab.mk (show Below w.heap.size w (World.setCell W2 ⟨w.heap.size, 31, none⟩ (.int .u8 v)) from ag HB.out (Nat.le_refl _)); clear BX BZ HB; have BX := b_; have BZ := z_; have HB := h_; clear b_ z_ h_; generalize World.setCell _ (⟨w.heap.size, 31, none⟩ : Addr) (.int .u8 v) = W8 at BX BZ HB ⊢; refine wpList_load_mid rfl 36 (.tmp 3) rfl w.heap.size 0 rfl _ _ (ao.range BX.out) rfl rfl (by kernel_rfl) ?_; simp only [Act.put, List.setIfInBounds_toArray, List.set_cons_zero, List.set_cons_succ]) | ((with_reducible refine az (t := 36) (p := 6) (v := .tmp 40) rfl ?_); have y0 := ab.mk (BZ.out.fill (⟨{ s with mp := m, last := v }, Ai, ci, Ar, cr⟩ : Rt)); have y1 := ab.mk (ay HB.out (w.heap.size + 1) 0 (by omega) (⟨{ s with mp := m, last := v }, Ai, ci, Ar, cr⟩ : Rt).cells); refine wpList_store_mid rfl 36 (.tmp 6) (.tmp 40) rfl (w.heap.size + 1) 0 _ rfl rfl BZ.out.there (by kernel_rfl) (Rt.one _) ?_; generalize World.setCells _ (w.heap.size + 1) 0 _ = Y at y0 y1 ⊢; simp only [Act.put, List.setIfInBounds_toArray, List.set_cons_zero, List.set_cons_succ]))
 refine bodyPost_ret (results_cell_row rfl _ _ _ _ _ _ _ rfl y0.out rfl rfl (by kernel_rfl)) rfl ⟨rfl, y1.out⟩
theorem rwrite_l1 (s : Ct) (Ai : Option Addr) (ci : Nat) (Ar : Option Addr) (cr : Nat) (ad : Int) (m : Mp) (hlo : decide (ad < 32768) = true) (hck : s.hdr.ck = true) (hhi : decide (24576 ≤ ad) = true) (hl : (s.last == 0) = false) (hw : Puts 44 #[.agg #[.int .i64 s.mp.k, .bool s.mp.o, .int .u8 s.mp.l, .int .u8 s.mp.h, .int .u8 s.mp.r, .bool s.mp.md], .int .u16 ad, .int .u8 1] (.agg #[.int .i64 m.k, .bool m.o, .int .u8 m.l, .int .u8 m.h, .int .u8 m.r, .bool m.md])) : Puts 19 #[(⟨s, Ai, ci, Ar, cr⟩ : Rt).v, .int .u16 ad, .int .u8 1] (⟨{ s with mp := m, last := 1 }, Ai, ci, Ar, cr⟩ : Rt).v := by
 intro w
 have BX0 := ab.mk (ao.alloc (ao.new w (⟨s, Ai, ci, Ar, cr⟩ : Rt)) (.cells [.bool false, .string ⟨#[]⟩, .int .u8 0, .int .i64 0, .bool false, .bool false, .bool false, .int .i64 0, .int .i64 0, .int .u8 0, .int .u16 0, .slice none 0 0, .slice none 0 0, .int .i64 0, .bool false, .int .u8 0, .int .u8 0, .int .u8 0, .bool false, .int .u8 0, .int .u8 0, .int .u8 0, .int .u16 0, .bool false, .bool false, .int .u8 0, .int .u8 0, .int .u8 0, .int .u16 0, .bool false, .bool false, .int .u8 0].toArray 36))
 have BZ0 := ab.mk (bF w (.cells (⟨s, Ai, ci, Ar, cr⟩ : Rt).cells.toArray 36) [.bool false, .string ⟨#[]⟩, .int .u8 0, .int .i64 0, .bool false, .bool false, .bool false, .int .i64 0, .int .i64 0, .int .u8 0, .int .u16 0, .slice none 0 0, .slice none 0 0, .int .i64 0, .bool false, .int .u8 0, .int .u8 0, .int .u8 0, .bool false, .int .u8 0, .int .u8 0, .int .u8 0, .int .u16 0, .bool false, .bool false, .int .u8 0, .int .u8 0, .int .u8 0, .int .u16 0, .bool false, .bool false, .int .u8 0] rfl)
 have HB0 := ab.mk (ac (ac (Below.refl w.heap.size w) (.cells (⟨s, Ai, ci, Ar, cr⟩ : Rt).cells.toArray 36)) (.cells [.bool false, .string ⟨#[]⟩, .int .u8 0, .int .i64 0, .bool false, .bool false, .bool false, .int .i64 0, .int .i64 0, .int .u8 0, .int .u16 0, .slice none 0 0, .slice none 0 0, .int .i64 0, .bool false, .int .u8 0, .int .u8 0, .int .u8 0, .bool false, .int .u8 0, .int .u8 0, .int .u8 0, .int .u16 0, .bool false, .bool false, .int .u8 0, .int .u8 0, .int .u8 0, .int .u16 0, .bool false, .bool false, .int .u8 0].toArray 36))
 have HCK := ab.mk hck
 clear hck
 go_enter Try.func19, Try.ntmps19
 go_wp2_with (first | ((with_reducible refine ar (N := 9) rfl ?_); have BX := BX0; have BZ := BZ0; have HB := HB0; clear BX0 BZ0 HB0; generalize (w.alloc (.cells #[.bool true, .string s.hdr.t, .int .u8 s.hdr.kd, .int .i64 s.hdr.mp, .bool s.hdr.rm, .bool s.hdr.bt, .bool s.hdr.ck, .int .i64 s.hdr.bk, .int .i64 s.hdr.sz, .int .u8 s.hdr.sm, .int .u16 s.hdr.wh, .slice Ai s.img.length ci, .slice Ar s.ram.length cr, .int .i64 s.mp.k, .bool s.mp.o, .int .u8 s.mp.l, .int .u8 s.mp.h, .int .u8 s.mp.r, .bool s.mp.md, .int .u8 s.lv.s, .int .u8 s.lv.m, .int .u8 s.lv.h, .int .u16 s.lv.d, .bool s.lv.ht, .bool s.lv.cy, .int .u8 s.hd.s, .int .u8 s.hd.m, .int .u8 s.hd.h, .int .u16 s.hd.d, .bool s.hd.ht, .bool s.hd.cy, .int .u8 s.last] 36)).alloc (.cells #[.bool false, .string ⟨#[]⟩, .int .u8 0, .int .i64 0, .bool false, .bool false, .bool false, .int .i64 0, .int .i64 0, .int .u8 0, .int .u16 0, .slice none 0 0, .slice none 0 0, .int .i64 0, .bool false, .int .u8 0, .int .u8 0, .int .u8 0, .bool false, .int .u8 0, .int .u8 0, .int .u8 0, .int .u16 0, .bool false, .bool false, .int .u8 0, .int .u8 0, .int .u8 0, .int .u16 0, .bool false, .bool false, .int .u8 0] 36) = W at BX BZ HB ⊢; have c0 : W.cell? ⟨w.heap.size, 0, none⟩ = some (.bool true) := ao.c0 BX.out; have c13 : W.cell? ⟨w.heap.size, 13, none⟩ = some (.int .i64 s.mp.k) := ao.c13 BX.out; have c14 : W.cell? ⟨w.heap.size, 14, none⟩ = some (.bool s.mp.o) := ao.c14 BX.out; have c15 : W.cell? ⟨w.heap.size, 15, none⟩ = some (.int .u8 s.mp.l) := ao.c15 BX.out; have c16 : W.cell? ⟨w.heap.size, 16, none⟩ = some (.int .u8 s.mp.h) := ao.c16 BX.out; have c17 : W.cell? ⟨w.heap.size, 17, none⟩ = some (.int .u8 s.mp.r) := ao.c17 BX.out; have c18 : W.cell? ⟨w.heap.size, 18, none⟩ = some (.bool s.mp.md) := ao.c18 BX.out))
 clear c0
 refine (hw _).mono ?_
 rintro e' w1 ⟨rfl, hb⟩
 have b_ := ab.mk (BX.out.below hb)
 have z_ := ab.mk (BZ.out.below hb)
 have h_ := ab.mk (ak HB.out hb)
 clear BX BZ HB hb
 have BX := b_
 have BZ := z_
 have HB := h_
 clear b_ z_ h_
 clear c13 c14 c15 c16 c17 c18
 go_wp2_with (first | ((with_reducible refine az (t := 32) (p := 20) (v := .tmp 19) rfl ?_); have b_ := ab.mk (BX.out.setM m); have z_ := ab.mk (BZ.out.far (g := w.heap.size) (by omega) 13 [.int .i64 m.k, .bool m.o, .int .u8 m.l, .int .u8 m.h, .int .u8 m.r, .bool m.md]); have h_ := ab.mk (ay HB.out w.heap.size 13 (by omega) [.int .i64 m.k, .bool m.o, .int .u8 m.l, .int .u8 m.h, .int .u8 m.r, .bool m.md]); refine wpList_store_mid rfl 32 (.tmp 20) (.tmp 19) rfl w.heap.size 13 _ rfl rfl (BX.out.thereAt 13 6 (by decide)) (by kernel_rfl) (by simp [Value.oneCell']) ?_; clear BX BZ HB; have BX := b_; have BZ := z_; have HB := h_; clear b_ z_ h_; generalize World.setCells _ w.heap.size 13 _ = W2 at BX BZ HB ⊢; have c6 : W2.cell? ⟨w.heap.size, 6, none⟩ = some (.bool true) := (ao.c6 BX.out).trans (by show some (Value.bool s.hdr.ck) = _; rw [HCK.out]); have fz31 : W2.frozen? ⟨w.heap.size, 31, none⟩ = false := ao.frozen BX.out 31; have c31 : W2.cell? ⟨w.heap.size, 31, none⟩ = some (.int .u8 s.last) := ao.c31 BX.out; simp only [Act.put, List.setIfInBounds_toArray, List.set_cons_zero, List.set_cons_succ]) | ((with_reducible refine ar (N := 40) rfl ?_); have b_ := ab.mk (BX.out.last 1); have z_ := ab.mk (BZ.out.far1 (g := w.heap.size) (by omega) 31 (.int .u8 1)); have h_ := ab.mk (show Below w.heap.size w (World.setCell W2 ⟨w.heap.size, 31, none⟩ (.int .u8 1)) from ag HB.out (Nat.le_refl _)); clear BX BZ HB; have BX := b_; have BZ := z_; have HB := h_; clear b_ z_ h_; generalize World.setCell _ (⟨w.heap.size, 31, none⟩ : Addr) (.int .u8 1) = W8 at BX BZ HB ⊢; refine wpList_load_mid rfl 36 (.tmp 3) rfl w.heap.size 0 rfl _ _ (ao.range BX.out) rfl rfl (by kernel_rfl) ?_; simp only [Act.put, List.setIfInBounds_toArray, List.set_cons_zero, List.set_cons_succ]) | ((with_reducible refine az (t := 36) (p := 6) (v := .tmp 40) rfl ?_); have y0 := ab.mk (BZ.out.fill (⟨{ s with mp := m, last := 1 }, Ai, ci, Ar, cr⟩ : Rt)); have y1 := ab.mk (ay HB.out (w.heap.size + 1) 0 (by omega) (⟨{ s with mp := m, last := 1 }, Ai, ci, Ar, cr⟩ : Rt).cells); refine wpList_store_mid rfl 36 (.tmp 6) (.tmp 40) rfl (w.heap.size + 1) 0 _ rfl rfl BZ.out.there (by kernel_rfl) (Rt.one _) ?_; generalize World.setCells _ (w.heap.size + 1) 0 _ = Y at y0 y1 ⊢; simp only [Act.put, List.setIfInBounds_toArray, List.set_cons_zero, List.set_cons_succ]))
 refine bodyPost_ret (results_cell_row rfl _ _ _ _ _ _ _ rfl y0.out rfl rfl (by kernel_rfl)) rfl ⟨rfl, y1.out⟩
theorem rwrite_l2 (s : Ct) (Ai : Option Addr) (ci : Nat) (Ar : Option Addr) (cr : Nat) (ad : Int) (m : Mp) (hlo : decide (ad < 32768) = true) (hck : s.hdr.ck = true) (hhi : decide (24576 ≤ ad) = true) (hl : (s.last == 0) = true) (hw : Puts 44 #[.agg #[.int .i64 s.mp.k, .bool s.mp.o, .int .u8 s.mp.l, .int .u8 s.mp.h, .int .u8 s.mp.r, .bool s.mp.md], .int .u16 ad, .int .u8 1] (.agg #[.int .i64 m.k, .bool m.o, .int .u8 m.l, .int .u8 m.h, .int .u8 m.r, .bool m.md])) : Puts 19 #[(⟨s, Ai, ci, Ar, cr⟩ : Rt).v, .int .u16 ad, .int .u8 1] (⟨{ s with mp := m, hd := s.lv, last := 1 }, Ai, ci, Ar, cr⟩ : Rt).v := by
 intro w
 have BX0 := ab.mk (ao.alloc (ao.new w (⟨s, Ai, ci, Ar, cr⟩ : Rt)) (.cells [.bool false, .string ⟨#[]⟩, .int .u8 0, .int .i64 0, .bool false, .bool false, .bool false, .int .i64 0, .int .i64 0, .int .u8 0, .int .u16 0, .slice none 0 0, .slice none 0 0, .int .i64 0, .bool false, .int .u8 0, .int .u8 0, .int .u8 0, .bool false, .int .u8 0, .int .u8 0, .int .u8 0, .int .u16 0, .bool false, .bool false, .int .u8 0, .int .u8 0, .int .u8 0, .int .u16 0, .bool false, .bool false, .int .u8 0].toArray 36))
 have BZ0 := ab.mk (bF w (.cells (⟨s, Ai, ci, Ar, cr⟩ : Rt).cells.toArray 36) [.bool false, .string ⟨#[]⟩, .int .u8 0, .int .i64 0, .bool false, .bool false, .bool false, .int .i64 0, .int .i64 0, .int .u8 0, .int .u16 0, .slice none 0 0, .slice none 0 0, .int .i64 0, .bool false, .int .u8 0, .int .u8 0, .int .u8 0, .bool false, .int .u8 0, .int .u8 0, .int .u8 0, .int .u16 0, .bool false, .bool false, .int .u8 0, .int .u8 0, .int .u8 0, .int .u16 0, .bool false, .bool false, .int .u8 0] rfl)
 have HB0 := ab.mk (ac (ac (Below.refl w.heap.size w) (.cells (⟨s, Ai, ci, Ar, cr⟩ : Rt).cells.toArray 36)) (.cells [.bool false, .string ⟨#[]⟩, .int .u8 0, .int .i64 0, .bool false, .bool false, .bool false, .int .i64 0, .int .i64 0, .int .u8 0, .int .u16 0, .slice none 0 0, .slice none 0 0, .int .i64 0, .bool false, .int .u8 0, .int .u8 0, .int .u8 0, .bool false, .int .u8 0, .int .u8 0, .int .u8 0, .int .u16 0, .bool false, .bool false, .int .u8 0, .int .u8 0, .int .u8 0, .int .u16 0, .bool false, .bool false, .int .u8 0].toArray 36))
 have HCK := ab.mk hck
 clear hck
 go_enter Try.func19, Try.ntmps19
 go_wp2_with (first | ((with_reducible refine ar (N := 9) rfl ?_); have BX := BX0; have BZ := BZ0; have HB := HB0; clear BX0 BZ0 HB0; generalize (w.alloc (.cells #[.bool true, .string s.hdr.t, .int .u8 s.hdr.kd, .int .i64 s.hdr.mp, .bool s.hdr.rm, .bool s.hdr.bt, .bool s.hdr.ck, .int .i64 s.hdr.bk, .int .i64 s.hdr.sz, .int .u8 s.hdr.sm, .int .u16 s.hdr.wh, .slice Ai s.img.length ci, .slice Ar s.ram.length cr, .int .i64 s.mp.k, .bool s.mp.o, .int .u8 s.mp.l, .int .u8 s.mp.h, .int .u8 s.mp.r, .bool s.mp.md, .int .u8 s.lv.s, .int .u8 s.lv.m, .int .u8 s.lv.h, .int .u16 s.lv.d, .bool s.lv.ht, .bool s.lv.cy, .int .u8 s.hd.s, .int .u8 s.hd.m, .int .u8 s.hd.h, .int .u16 s.hd.d, .bool s.hd.ht, .bool s.hd.cy, .int .u8 s.last] 36)).alloc (.cells #[.bool false, .string ⟨#[]⟩, .int .u8 0, .int .i64 0, .bool false, .bool false, .bool false, .int .i64 0, .int .i64 0, .int .u8 0, .int .u16 0, .slice none 0 0, .slice none 0 0, .int .i64 0, .bool false, .int .u8 0, .int .u8 0, .int .u8 0, .bool false, .int .u8 0, .int .u8 0, .int .u8 0, .int .u16 0, .bool false, .bool false, .int .u8 0, .int .u8 0, .int .u8 0, .int .u16 0, .bool false, .bool false, .int .u8 0] 36) = W at BX BZ HB ⊢; have c0 : W.cell? ⟨w.heap.size, 0, none⟩ = some (.bool true) := ao.c0 BX.out; have c13 : W.cell? ⟨w.heap.size, 13, none⟩ = some (.int .i64 s.mp.k) := ao.c13 BX.out; have c14 : W.cell? ⟨w.heap.size, 14, none⟩ = some (.bool s.mp.o) := ao.c14 BX.out; have c15 : W.cell? ⟨w.heap.size, 15, none⟩ = some (.int .u8 s.mp.l) := ao.c15 BX.out; have c16 : W.cell? ⟨w.heap.size, 16, none⟩ = some (.int .u8 s.mp.h) := ao.c16 BX.out; have c17 : W.cell? ⟨w.heap.size, 17, none⟩ = some (.int .u8 s.mp.r) := ao.c17 BX.out; have c18 : W.cell? ⟨w.heap.size, 18, none⟩ = some (.bool s.mp.md) := ao.c18 BX.out))
 clear c0
 refine (hw _).mono ?_
 rintro e' w1 ⟨rfl, hb⟩
 have b_ := ab.mk (BX.out.below hb)
 have z_ := ab.mk (BZ.out.below hb)
 have h_ := ab.mk (ak HB.out hb)
 clear BX BZ HB hb
 have BX := b_
 have BZ := z_
 have HB := h_
 clear b_ z_ h_
 clear c13 c14 c15 c16 c17 c18
 go_wp2_with (first | ((with_reducible refine az (t := 32) (p := 20) (v := .tmp 19) rfl ?_); have b_ := ab.mk (BX.out.setM m); have z_ := ab.mk (BZ.out.far (g := w.heap.size) (by omega) 13 [.int .i64 m.k, .bool m.o, .int .u8 m.l, .int .u8 m.h, .int .u8 m.r, .bool m.md]); have h_ := ab.mk (ay HB.out w.heap.size 13 (by omega) [.int .i64 m.k, .bool m.o, .int .u8 m.l, .int .u8 m.h, .int .u8 m.r, .bool m.md]); refine wpList_store_mid rfl 32 (.tmp 20) (.tmp 19) rfl w.heap.size 13 _ rfl rfl (BX.out.thereAt 13 6 (by decide)) (by kernel_rfl) (by simp [Value.oneCell']) ?_; clear BX BZ HB; have BX := b_; have BZ := z_; have HB := h_; clear b_ z_ h_; generalize World.setCells _ w.heap.size 13 _ = W2 at BX BZ HB ⊢; have c6 : W2.cell? ⟨w.heap.size, 6, none⟩ = some (.bool true) := (ao.c6 BX.out).trans (by show some (Value.bool s.hdr.ck) = _; rw [HCK.out]); have fz31 : W2.frozen? ⟨w.heap.size, 31, none⟩ = false := ao.frozen BX.out 31; have c31 : W2.cell? ⟨w.heap.size, 31, none⟩ = some (.int .u8 s.last) := ao.c31 BX.out; have c19 : W2.cell? ⟨w.heap.size, 19, none⟩ = some (.int .u8 s.lv.s) := ao.c19 BX.out; have c20 : W2.cell? ⟨w.heap.size, 20, none⟩ = some (.int .u8 s.lv.m) := ao.c20 BX.out; have c21 : W2.cell? ⟨w.heap.size, 21, none⟩ = some (.int .u8 s.lv.h) := ao.c21 BX.out; have c22 : W2.cell? ⟨w.heap.size, 22, none⟩ = some (.int .u16 s.lv.d) := ao.c22 BX.out; have c23 : W2.cell? ⟨w.heap.size, 23, none⟩ = some (.bool s.lv.ht) := ao.c23 BX.out; have c24 : W2.cell? ⟨w.heap.size, 24, none⟩ = some (.bool s.lv.cy) := ao.c24 BX.out; simp only [Act.put, List.setIfInBounds_toArray, List.set_cons_zero, List.set_cons_succ]) | ((with_reducible refine az (t := 34) (p := 37) (v := .tmp 36) rfl ?_); have b_ := ab.mk (BX.out.setH s.lv); have z_ := ab.mk (BZ.out.far (g := w.heap.size) (by omega) 25 [.int .u8 s.lv.s, .int .u8 s.lv.m, .int .u8 s.lv.h, .int .u16 s.lv.d, .bool s.lv.ht, .bool s.lv.cy]); have h_ := ab.mk (ay HB.out w.heap.size 25 (by omega) [.int .u8 s.lv.s, .int .u8 s.lv.m, .int .u8 s.lv.h, .int .u16 s.lv.d, .bool s.lv.ht, .bool s.lv.cy]); refine wpList_store_mid rfl 34 (.tmp 37) (.tmp 36) rfl w.heap.size 25 _ rfl rfl (BX.out.thereAt 25 6 (by decide)) (by kernel_rfl) (by simp [Value.oneCell']) ?_; clear BX BZ HB; have BX := b_; have BZ := z_; have HB := h_; clear b_ z_ h_; generalize World.setCells _ w.heap.size 25 _ = W5 at BX BZ HB ⊢; have fz31 : W5.frozen? ⟨w.heap.size, 31, none⟩ = false := ao.frozen BX.out 31; have c31 : W5.cell? ⟨w.heap.size, 31, none⟩ = some (.int .u8 s.last) := ao.c31 BX.out; simp only [Act.put, List.setIfInBounds_toArray, List.set_cons_zero, List.set_cons_succ]) | ((with_reducible refine ar (N := 40) rfl ?_); have b_ := ab.mk (BX.out.last 1); have z_ := ab.mk (BZ.out.far1 (g := w.heap.size) (by omega) 31 (.int .u8 1)); have h_ := ab.mk (show Below w.heap.size w (World.setCell W5 ⟨w.heap.size, 31, none⟩ (.int .u8 1)) from ag HB.out (Nat.le_refl _)); clear BX BZ HB; have BX := b_; have BZ := z_; have HB := h_; clear b_ z_ h_; generalize World.setCell _ (⟨w.heap.size, 31, none⟩ : Addr) (.int .u8 1) = W8 at BX BZ HB ⊢; refine wpList_load_mid rfl 36 (.tmp 3) rfl w.heap.size 0 rfl _ _ (ao.range BX.out) rfl rfl (by kernel_rfl) ?_; simp only [Act.put, List.setIfInBounds_toArray, List.set_cons_zero, List.set_cons_succ]) | ((with_reducible refine az (t := 36) (p := 6) (v := .tmp 40) rfl ?_); have y0 := ab.mk (BZ.out.fill (⟨{ s with mp := m, hd := s.lv, last := 1 }, Ai, ci, Ar, cr⟩ : Rt)); have y1 := ab.mk (ay HB.out (w.heap.size + 1) 0 (by omega) (⟨{ s with mp := m, hd := s.lv, last := 1 }, Ai, ci, Ar, cr⟩ : Rt).cells); refine wpList_store_mid rfl 36 (.tmp 6) (.tmp 40) rfl (w.heap.size + 1) 0 _ rfl rfl BZ.out.there (by kernel_rfl) (Rt.one _) ?_; generalize World.setCells _ (w.heap.size + 1) 0 _ = Y at y0 y1 ⊢; simp only [Act.put, List.setIfInBounds_toArray, List.set_cons_zero, List.set_cons_succ]))
 refine bodyPost_ret (results_cell_row rfl _ _ _ _ _ _ _ rfl y0.out rfl rfl (by kernel_rfl)) rfl ⟨rfl, y1.out⟩
theorem rwrite_reg (s : Ct) (Ai : Option Addr) (ci : Nat) (Ar : Option Addr) (cr : Nat) (ad v : Int) (n at_ : Int) (c : Ck) (x : Int) (hn : (n == 0) = false) (hc : Puts 45 #[.agg #[.int .u8 s.lv.s, .int .u8 s.lv.m, .int .u8 s.lv.h, .int .u16 s.lv.d, .bool s.lv.ht, .bool s.lv.cy], .int .i64 n, .int .u8 v] (.tuple #[.agg #[.int .u8 c.s, .int .u8 c.m, .int .u8 c.h, .int .u16 c.d, .bool c.ht, .bool c.cy], .int .i64 x])) (hlo : decide (ad < 32768) = false) (hr : Puts 38 #[(⟨s, Ai, ci, Ar, cr⟩ : Rt).v, .int .u16 ad] (.int .i64 n)) (ha : Puts 40 #[.agg #[.int .i64 s.mp.k, .bool s.mp.o, .int .u8 s.mp.l, .int .u8 s.mp.h, .int .u8 s.mp.r, .bool s.mp.md], .int .u16 ad, .int .i64 s.ram.length] (.int .i64 at_)) : Puts 19 #[(⟨s, Ai, ci, Ar, cr⟩ : Rt).v, .int .u16 ad, .int .u8 v] (⟨{ s with lv := c }, Ai, ci, Ar, cr⟩ : Rt).v := by
 intro w
 have BX0 := ab.mk (ao.alloc (ao.new w (⟨s, Ai, ci, Ar, cr⟩ : Rt)) (.cells [.bool false, .string ⟨#[]⟩, .int .u8 0, .int .i64 0, .bool false, .bool false, .bool false, .int .i64 0, .int .i64 0, .int .u8 0, .int .u16 0, .slice none 0 0, .slice none 0 0, .int .i64 0, .bool false, .int .u8 0, .int .u8 0, .int .u8 0, .bool false, .int .u8 0, .int .u8 0, .int .u8 0, .int .u16 0, .bool false, .bool false, .int .u8 0, .int .u8 0, .int .u8 0, .int .u16 0, .bool false, .bool false, .int .u8 0].toArray 36))
 have BZ0 := ab.mk (bF w (.cells (⟨s, Ai, ci, Ar, cr⟩ : Rt).cells.toArray 36) [.bool false, .string ⟨#[]⟩, .int .u8 0, .int .i64 0, .bool false, .bool false, .bool false, .int .i64 0, .int .i64 0, .int .u8 0, .int .u16 0, .slice none 0 0, .slice none 0 0, .int .i64 0, .bool false, .int .u8 0, .int .u8 0, .int .u8 0, .bool false, .int .u8 0, .int .u8 0, .int .u8 0, .int .u16 0, .bool false, .bool false, .int .u8 0, .int .u8 0, .int .u8 0, .int .u16 0, .bool false, .bool false, .int .u8 0] rfl)
 have HB0 := ab.mk (ac (ac (Below.refl w.heap.size w) (.cells (⟨s, Ai, ci, Ar, cr⟩ : Rt).cells.toArray 36)) (.cells [.bool false, .string ⟨#[]⟩, .int .u8 0, .int .i64 0, .bool false, .bool false, .bool false, .int .i64 0, .int .i64 0, .int .u8 0, .int .u16 0, .slice none 0 0, .slice none 0 0, .int .i64 0, .bool false, .int .u8 0, .int .u8 0, .int .u8 0, .bool false, .int .u8 0, .int .u8 0, .int .u8 0, .int .u16 0, .bool false, .bool false, .int .u8 0, .int .u8 0, .int .u8 0, .int .u16 0, .bool false, .bool false, .int .u8 0].toArray 36))
 go_enter Try.func19, Try.ntmps19
 go_wp2_with (first | ((with_reducible refine ar (N := 9) rfl ?_); have BX := BX0; have BZ := BZ0; have HB := HB0; clear BX0 BZ0 HB0; generalize (w.alloc (.cells #[.bool true, .string s.hdr.t, .int .u8 s.hdr.kd, .int .i64 s.hdr.mp, .bool s.hdr.rm, .bool s.hdr.bt, .bool s.hdr.ck, .int .i64 s.hdr.bk, .int .i64 s.hdr.sz, .int .u8 s.hdr.sm, .int .u16 s.hdr.wh, .slice Ai s.img.length ci, .slice Ar s.ram.length cr, .int .i64 s.mp.k, .bool s.mp.o, .int .u8 s.mp.l, .int .u8 s.mp.h, .int .u8 s.mp.r, .bool s.mp.md, .int .u8 s.lv.s, .int .u8 s.lv.m, .int .u8 s.lv.h, .int .u16 s.lv.d, .bool s.lv.ht, .bool s.lv.cy, .int .u8 s.hd.s, .int .u8 s.hd.m, .int .u8 s.hd.h, .int .u16 s.hd.d, .bool s.hd.ht, .bool s.hd.cy, .int .u8 s.last] 36)).alloc (.cells #[.bool false, .string ⟨#[]⟩, .int .u8 0, .int .i64 0, .bool false, .bool false, .bool false, .int .i64 0, .int .i64 0, .int .u8 0, .int .u16 0, .slice none 0 0, .slice none 0 0, .int .i64 0, .bool false, .int .u8 0, .int .u8 0, .int .u8 0, .bool false, .int .u8 0, .int .u8 0, .int .u8 0, .int .u16 0, .bool false, .bool false, .int .u8 0, .int .u8 0, .int .u8 0, .int .u16 0, .bool false, .bool false, .int .u8 0] 36) = W at BX BZ HB ⊢; have c0 : W.cell? ⟨w.heap.size, 0, none⟩ = some (.bool true) := ao.c0 BX.out) | ((with_reducible refine ar (N := 41) rfl ?_); refine wpList_load_mid rfl 36 (.tmp 3) rfl w.heap.size 0 rfl _ _ (ao.range BX.out) rfl rfl (by kernel_rfl) ?_; simp only [Act.put, List.setIfInBounds_toArray, List.set_cons_zero, List.set_cons_succ]))
 clear c0
 refine (hr _).mono ?_
 rintro e' w1 ⟨rfl, hb⟩
 have b_ := ab.mk (BX.out.below hb)
 have z_ := ab.mk (BZ.out.below hb)
 have h_ := ab.mk (ak HB.out hb)
 clear BX BZ HB hb
 have BX := b_
 have BZ := z_
 have HB := h_
 clear b_ z_ h_
 have c13 : w1.cell? ⟨w.heap.size, 13, none⟩ = some (.int .i64 s.mp.k) := BX.out.c13
 have c14 : w1.cell? ⟨w.heap.size, 14, none⟩ = some (.bool s.mp.o) := BX.out.c14
 have c15 : w1.cell? ⟨w.heap.size, 15, none⟩ = some (.int .u8 s.mp.l) := BX.out.c15
 have c16 : w1.cell? ⟨w.heap.size, 16, none⟩ = some (.int .u8 s.mp.h) := BX.out.c16
 have c17 : w1.cell? ⟨w.heap.size, 17, none⟩ = some (.int .u8 s.mp.r) := BX.out.c17
 have c18 : w1.cell? ⟨w.heap.size, 18, none⟩ = some (.bool s.mp.md) := BX.out.c18
 have c12 : w1.cell? ⟨w.heap.size, 12, none⟩ = some (.slice Ar s.ram.length cr) := BX.out.c12
 go_wp2_with fail
 refine (ha _).mono ?_
 rintro e' w2 ⟨rfl, hb⟩
 have b_ := ab.mk (BX.out.below hb)
 have z_ := ab.mk (BZ.out.below hb)
 have h_ := ab.mk (ak HB.out hb)
 clear BX BZ HB hb
 have BX := b_
 have BZ := z_
 have HB := h_
 clear b_ z_ h_
 clear c13 c14 c15 c16 c17 c18 c12
 have c19 : w2.cell? ⟨w.heap.size, 19, none⟩ = some (.int .u8 s.lv.s) := BX.out.c19
 have c20 : w2.cell? ⟨w.heap.size, 20, none⟩ = some (.int .u8 s.lv.m) := BX.out.c20
 have c21 : w2.cell? ⟨w.heap.size, 21, none⟩ = some (.int .u8 s.lv.h) := BX.out.c21
 have c22 : w2.cell? ⟨w.heap.size, 22, none⟩ = some (.int .u16 s.lv.d) := BX.out.c22
 have c23 : w2.cell? ⟨w.heap.size, 23, none⟩ = some (.bool s.lv.ht) := BX.out.c23
 have c24 : w2.cell? ⟨w.heap.size, 24, none⟩ = some (.bool s.lv.cy) := BX.out.c24
 go_wp2_with fail
 refine (hc _).mono ?_
 rintro e' w3 ⟨rfl, hb⟩
 have b_ := ab.mk (BX.out.below hb)
 have z_ := ab.mk (BZ.out.below hb)
 have h_ := ab.mk (ak HB.out hb)
 clear BX BZ HB hb
 have BX := b_
 have BZ := z_
 have HB := h_
 clear b_ z_ h_
 clear c19 c20 c21 c22 c23 c24
 go_wp2_with (first | ((with_reducible refine az (t := 34) (p := 61) (v := .tmp 59) rfl ?_); have b_ := ab.mk (BX.out.setL c); have z_ := ab.mk (BZ.out.far (g := w.heap.size) (by omega) 19 [.int .u8 c.s, .int .u8 c.m, .int .u8 c.h, .int .u16 c.d, .bool c.ht, .bool c.cy]); have h_ := ab.mk (ay HB.out w.heap.size 19 (by omega) [.int .u8 c.s, .int .u8 c.m, .int .u8 c.h, .int .u16 c.d, .bool c.ht, .bool c.cy]); refine wpList_store_mid rfl 34 (.tmp 61) (.tmp 59) rfl w.heap.size 19 _ rfl rfl (BX.out.thereAt 19 6 (by decide)) (by kernel_rfl) (by simp [Value.oneCell']) ?_; clear BX BZ HB; have BX := b_; have BZ := z_; have HB := h_; clear b_ z_ h_; generalize World.setCells _ w.heap.size 19 _ = W2 at BX BZ HB ⊢; simp only [Act.put, List.setIfInBounds_toArray, List.set_cons_zero, List.set_cons_succ]) | ((with_reducible refine ar (N := 74) rfl ?_); refine wpList_load_mid rfl 36 (.tmp 3) rfl w.heap.size 0 rfl _ _ (ao.range BX.out) rfl rfl (by kernel_rfl) ?_; simp only [Act.put, List.setIfInBounds_toArray, List.set_cons_zero, List.set_cons_succ]) | ((with_reducible refine az (t := 36) (p := 6) (v := .tmp 74) rfl ?_); have y0 := ab.mk (BZ.out.fill (⟨{ s with lv := c }, Ai, ci, Ar, cr⟩ : Rt)); have y1 := ab.mk (ay HB.out (w.heap.size + 1) 0 (by omega) (⟨{ s with lv := c }, Ai, ci, Ar, cr⟩ : Rt).cells); refine wpList_store_mid rfl 36 (.tmp 6) (.tmp 74) rfl (w.heap.size + 1) 0 _ rfl rfl BZ.out.there (by kernel_rfl) (Rt.one _) ?_; generalize World.setCells _ (w.heap.size + 1) 0 _ = Y at y0 y1 ⊢; simp only [Act.put, List.setIfInBounds_toArray, List.set_cons_zero, List.set_cons_succ]))
 refine bodyPost_ret (results_cell_row rfl _ _ _ _ _ _ _ rfl y0.out rfl rfl (by kernel_rfl)) rfl ⟨rfl, y1.out⟩
theorem rwrite_no (s : Ct) (Ai : Option Addr) (ci : Nat) (Ar : Option Addr) (cr : Nat) (ad v : Int) (n at_ : Int) (hat : decide (0 ≤ at_) = false) (hlo : decide (ad < 32768) = false) (hr : Puts 38 #[(⟨s, Ai, ci, Ar, cr⟩ : Rt).v, .int .u16 ad] (.int .i64 0)) (ha : Puts 40 #[.agg #[.int .i64 s.mp.k, .bool s.mp.o, .int .u8 s.mp.l, .int .u8 s.mp.h, .int .u8 s.mp.r, .bool s.mp.md], .int .u16 ad, .int .i64 s.ram.length] (.int .i64 at_)) : Puts 19 #[(⟨s, Ai, ci, Ar, cr⟩ : Rt).v, .int .u16 ad, .int .u8 v] (⟨s, Ai, ci, Ar, cr⟩ : Rt).v := by
 intro w
 have BX0 := ab.mk (ao.alloc (ao.new w (⟨s, Ai, ci, Ar, cr⟩ : Rt)) (.cells [.bool false, .string ⟨#[]⟩, .int .u8 0, .int .i64 0, .bool false, .bool false, .bool false, .int .i64 0, .int .i64 0, .int .u8 0, .int .u16 0, .slice none 0 0, .slice none 0 0, .int .i64 0, .bool false, .int .u8 0, .int .u8 0, .int .u8 0, .bool false, .int .u8 0, .int .u8 0, .int .u8 0, .int .u16 0, .bool false, .bool false, .int .u8 0, .int .u8 0, .int .u8 0, .int .u16 0, .bool false, .bool false, .int .u8 0].toArray 36))
 have BZ0 := ab.mk (bF w (.cells (⟨s, Ai, ci, Ar, cr⟩ : Rt).cells.toArray 36) [.bool false, .string ⟨#[]⟩, .int .u8 0, .int .i64 0, .bool false, .bool false, .bool false, .int .i64 0, .int .i64 0, .int .u8 0, .int .u16 0, .slice none 0 0, .slice none 0 0, .int .i64 0, .bool false, .int .u8 0, .int .u8 0, .int .u8 0, .bool false, .int .u8 0, .int .u8 0, .int .u8 0, .int .u16 0, .bool false, .bool false, .int .u8 0, .int .u8 0, .int .u8 0, .int .u16 0, .bool false, .bool false, .int .u8 0] rfl)
 have HB0 := ab.mk (ac (ac (Below.refl w.heap.size w) (.cells (⟨s, Ai, ci, Ar, cr⟩ : Rt).cells.toArray 36)) (.cells [.bool false, .string ⟨#[]⟩, .int .u8 0, .int .i64 0, .bool false, .bool false, .bool false, .int .i64 0, .int .i64 0, .int .u8 0, .int .u16 0, .slice none 0 0, .slice none 0 0, .int .i64 0, .bool false, .int .u8 0, .int .u8 0, .int .u8 0, .bool false, .int .u8 0, .int .u8 0, .int .u8 0, .int .u16 0, .bool false, .bool false, .int .u8 0, .int .u8 0, .int .u8 0, .int .u16 0, .bool false, .bool false, .int .u8 0].toArray 36))
 go_enter Try.func19, Try.ntmps19
 go_wp2_with (first | ((with_reducible refine ar (N := 9) rfl ?_); have BX := BX0; have BZ := BZ0; have HB := HB0; clear BX0 BZ0 HB0; generalize (w.alloc (.cells #[.bool true, .string s.hdr.t, .int .u8 s.hdr.kd, .int .i64 s.hdr.mp, .bool s.hdr.rm, .bool s.hdr.bt, .bool s.hdr.ck, .int .i64 s.hdr.bk, .int .i64 s.hdr.sz, .int .u8 s.hdr.sm, .int .u16 s.hdr.wh, .slice Ai s.img.length ci, .slice Ar s.ram.length cr, .int .i64 s.mp.k, .bool s.mp.o, .int .u8 s.mp.l, .int .u8 s.mp.h, .int .u8 s.mp.r, .bool s.mp.md, .int .u8 s.lv.s, .int .u8 s.lv.m, .int .u8 s.lv.h, .int .u16 s.lv.d, .bool s.lv.ht, .bool s.lv.cy, .int .u8 s.hd.s, .int .u8 s.hd.m, .int .u8 s.hd.h, .int .u16 s.hd.d, .bool s.hd.ht, .bool s.hd.cy, .int .u8 s.last] 36)).alloc (.cells #[.bool false, .string ⟨#[]⟩, .int .u8 0, .int .i64 0, .bool false, .bool false, .bool false, .int .i64 0, .int .i64 0, .int .u8 0, .int .u16 0, .slice none 0 0, .slice none 0 0, .int .i64 0, .bool false, .int .u8 0, .int .u8 0, .int .u8 0, .bool false, .int .u8 0, .int .u8 0, .int .u8 0, .int .u16 0, .bool false, .bool false, .int .u8 0, .int .u8 0, .int .u8 0, .int .u16 0, .bool false, .bool false, .int .u8 0] 36) = W at BX BZ HB ⊢; have c0 : W.cell? ⟨w.heap.size, 0, none⟩ = some (.bool true) := ao.c0 BX.out) | ((with_reducible refine ar (N := 41) rfl ?_); refine wpList_load_mid rfl 36 (.tmp 3) rfl w.heap.size 0 rfl _ _ (ao.range BX.out) rfl rfl (by kernel_rfl) ?_; simp only [Act.put, List.setIfInBounds_toArray, List.set_cons_zero, List.set_cons_succ]))
 clear c0
 refine (hr _).mono ?_
 rintro e' w1 ⟨rfl, hb⟩
 have b_ := ab.mk (BX.out.below hb)
 have z_ := ab.mk (BZ.out.below hb)
 have h_ := ab.mk (ak HB.out hb)
 clear BX BZ HB hb
 have BX := b_
 have BZ := z_
 have HB := h_
 clear b_ z_ h_
 have c13 : w1.cell? ⟨w.heap.size, 13, none⟩ = some (.int .i64 s.mp.k) := BX.out.c13
 have c14 : w1.cell? ⟨w.heap.size, 14, none⟩ = some (.bool s.mp.o) := BX.out.c14
 have c15 : w1.cell? ⟨w.heap.size, 15, none⟩ = some (.int .u8 s.mp.l) := BX.out.c15
 have c16 : w1.cell? ⟨w.heap.size, 16, none⟩ = some (.int .u8 s.mp.h) := BX.out.c16
 have c17 : w1.cell? ⟨w.heap.size, 17, none⟩ = some (.int .u8 s.mp.r) := BX.out.c17
 have c18 : w1.cell? ⟨w.heap.size, 18, none⟩ = some (.bool s.mp.md) := BX.out.c18
 have c12 : w1.cell? ⟨w.heap.size, 12, none⟩ = some (.slice Ar s.ram.length cr) := BX.out.c12
 go_wp2_with fail
 refine (ha _).mono ?_
 rintro e' w2 ⟨rfl, hb⟩
 have b_ := ab.mk (BX.out.below hb)
 have z_ := ab.mk (BZ.out.below hb)
 have h_ := ab.mk (ak HB.out hb)
 clear BX BZ HB hb
 have BX := b_
 have BZ := z_
 have HB := h_
 clear b_ z_ h_
 clear c13 c14 c15 c16 c17 c18 c12
 go_wp2_with (first | ((with_reducible refine ar (N := 74) rfl ?_); refine wpList_load_mid rfl 36 (.tmp 3) rfl w.heap.size 0 rfl _ _ (ao.range BX.out) rfl rfl (by kernel_rfl) ?_; simp only [Act.put, List.setIfInBounds_toArray, List.set_cons_zero, List.set_cons_succ]) | ((with_reducible refine az (t := 36) (p := 6) (v := .tmp 74) rfl ?_); have y0 := ab.mk (BZ.out.fill (⟨s, Ai, ci, Ar, cr⟩ : Rt)); have y1 := ab.mk (ay HB.out (w.heap.size + 1) 0 (by omega) (⟨s, Ai, ci, Ar, cr⟩ : Rt).cells); refine wpList_store_mid rfl 36 (.tmp 6) (.tmp 74) rfl (w.heap.size + 1) 0 _ rfl rfl BZ.out.there (by kernel_rfl) (Rt.one _) ?_; generalize World.setCells _ (w.heap.size + 1) 0 _ = Y at y0 y1 ⊢; simp only [Act.put, List.setIfInBounds_toArray, List.set_cons_zero, List.set_cons_succ]))
 refine bodyPost_ret (results_cell_row rfl _ _ _ _ _ _ _ rfl y0.out rfl rfl (by kernel_rfl)) rfl ⟨rfl, y1.out⟩
theorem blk_at2 (w : World) (A B : Obj) : ((w.alloc A).alloc B).heap[w.heap.size + 1]? = some B := by
 have q := aC (w.alloc A) B
 simpa using q
theorem blk_at3 (w : World) (A B C : Obj) : (((w.alloc A).alloc B).alloc C).heap[w.heap.size + 2]? = some C := by
 have q := aC ((w.alloc A).alloc B) C
 simpa using q
theorem state_at {w : World} {a : Ad} {s : Ct} (h : ax w a s) :
  Calls Try.prog 17 #[a.p] w fun e w' => e = .returned (.tuple #[s.mp.v, s.lv.v, s.hd.v]) ∧ Below w.heap.size w w' := by
 have HH := ab.mk h
 clear h
 go_enter Try.func17, Try.ntmps17
 go_wp2_with fail
 have hB := ac (ac (ac (Below.refl w.heap.size w) (.cells #[.int .i64 0, .bool false, .int .u8 0, .int .u8 0, .int .u8 0, .bool false] 32)) (.cells #[.int .u8 0, .int .u8 0, .int .u8 0, .int .u16 0, .bool false, .bool false] 34)) (.cells #[.int .u8 0, .int .u8 0, .int .u8 0, .int .u16 0, .bool false, .bool false] 34)
 have b0 := ah (ah (aC w (.cells #[.int .i64 0, .bool false, .int .u8 0, .int .u8 0, .int .u8 0, .bool false] 32)) (.cells #[.int .u8 0, .int .u8 0, .int .u8 0, .int .u16 0, .bool false, .bool false] 34)) (.cells #[.int .u8 0, .int .u8 0, .int .u8 0, .int .u16 0, .bool false, .bool false] 34)
 have b1 := ah (blk_at2 w (.cells #[.int .i64 0, .bool false, .int .u8 0, .int .u8 0, .int .u8 0, .bool false] 32) (.cells #[.int .u8 0, .int .u8 0, .int .u8 0, .int .u16 0, .bool false, .bool false] 34)) (.cells #[.int .u8 0, .int .u8 0, .int .u8 0, .int .u16 0, .bool false, .bool false] 34)
 have b2 := blk_at3 w (.cells #[.int .i64 0, .bool false, .int .u8 0, .int .u8 0, .int .u8 0, .bool false] 32) (.cells #[.int .u8 0, .int .u8 0, .int .u8 0, .int .u16 0, .bool false, .bool false] 34) (.cells #[.int .u8 0, .int .u8 0, .int .u8 0, .int .u16 0, .bool false, .bool false] 34)
 have hz : (((w.alloc (.cells #[.int .i64 0, .bool false, .int .u8 0, .int .u8 0, .int .u8 0, .bool false] 32)).alloc (.cells #[.int .u8 0, .int .u8 0, .int .u8 0, .int .u16 0, .bool false, .bool false] 34)).alloc (.cells #[.int .u8 0, .int .u8 0, .int .u8 0, .int .u16 0, .bool false, .bool false] 34)).heap.size = w.heap.size + 3 := by simp
 have h1 := HH.out.below hB
 generalize ((w.alloc (.cells #[.int .i64 0, .bool false, .int .u8 0, .int .u8 0, .int .u8 0, .bool false] 32)).alloc (.cells #[.int .u8 0, .int .u8 0, .int .u8 0, .int .u16 0, .bool false, .bool false] 34)).alloc (.cells #[.int .u8 0, .int .u8 0, .int .u8 0, .int .u16 0, .bool false, .bool false] 34) = W1 at hB b0 b1 b2 hz h1 ⊢
 have B0 := ab.mk b0
 have B1 := ab.mk b1
 have B2 := ab.mk b2
 have HB := ab.mk hB
 have H1 := ab.mk h1
 clear b0 b1 b2 hB h1
 refine (bI H1.out).mono ?_
 rintro e' w1 ⟨rfl, hw⟩
 replace hw := hw.symm
 subst hw
 have c0 := H1.out.c0
 have c1 := H1.out.c1
 have c2 := H1.out.c2
 have c3 := H1.out.c3
 have c4 := H1.out.c4
 have c5 := H1.out.c5
 have c6 := H1.out.c6
 have c7 := H1.out.c7
 have c8 := H1.out.c8
 have c9 := H1.out.c9
 have c10 := H1.out.c10
 have c11 := H1.out.c11
 have c12 := H1.out.c12
 have c13 := H1.out.c13
 have c14 := H1.out.c14
 have c15 := H1.out.c15
 have c16 := H1.out.c16
 have c17 := H1.out.c17
 have hlt := HH.out.ltb
 have n0 : ¬ a.b = w.heap.size := by omega
 have n1 : ¬ a.b = w.heap.size + 1 := by omega
 have n2 : ¬ a.b = w.heap.size + 2 := by omega
 have fz := H1.out.frozen
 clear hlt hz
 have e00 : W1.cell? ⟨w.heap.size, 0, none⟩ = some (.int .i64 0) := (aa B0.out 0).trans rfl
 have e01 : W1.cell? ⟨w.heap.size, 1, none⟩ = some (.bool false) := (aa B0.out 1).trans rfl
 have e02 : W1.cell? ⟨w.heap.size, 2, none⟩ = some (.int .u8 0) := (aa B0.out 2).trans rfl
 have e03 : W1.cell? ⟨w.heap.size, 3, none⟩ = some (.int .u8 0) := (aa B0.out 3).trans rfl
 have e04 : W1.cell? ⟨w.heap.size, 4, none⟩ = some (.int .u8 0) := (aa B0.out 4).trans rfl
 have e05 : W1.cell? ⟨w.heap.size, 5, none⟩ = some (.bool false) := (aa B0.out 5).trans rfl
 have f0 := fun i => ae B0.out i
 have e10 : W1.cell? ⟨w.heap.size + 1, 0, none⟩ = some (.int .u8 0) := (aa B1.out 0).trans rfl
 have e11 : W1.cell? ⟨w.heap.size + 1, 1, none⟩ = some (.int .u8 0) := (aa B1.out 1).trans rfl
 have e12 : W1.cell? ⟨w.heap.size + 1, 2, none⟩ = some (.int .u8 0) := (aa B1.out 2).trans rfl
 have e13 : W1.cell? ⟨w.heap.size + 1, 3, none⟩ = some (.int .u16 0) := (aa B1.out 3).trans rfl
 have e14 : W1.cell? ⟨w.heap.size + 1, 4, none⟩ = some (.bool false) := (aa B1.out 4).trans rfl
 have e15 : W1.cell? ⟨w.heap.size + 1, 5, none⟩ = some (.bool false) := (aa B1.out 5).trans rfl
 have f1 := fun i => ae B1.out i
 have e20 : W1.cell? ⟨w.heap.size + 2, 0, none⟩ = some (.int .u8 0) := (aa B2.out 0).trans rfl
 have e21 : W1.cell? ⟨w.heap.size + 2, 1, none⟩ = some (.int .u8 0) := (aa B2.out 1).trans rfl
 have e22 : W1.cell? ⟨w.heap.size + 2, 2, none⟩ = some (.int .u8 0) := (aa B2.out 2).trans rfl
 have e23 : W1.cell? ⟨w.heap.size + 2, 3, none⟩ = some (.int .u16 0) := (aa B2.out 3).trans rfl
 have e24 : W1.cell? ⟨w.heap.size + 2, 4, none⟩ = some (.bool false) := (aa B2.out 4).trans rfl
 have e25 : W1.cell? ⟨w.heap.size + 2, 5, none⟩ = some (.bool false) := (aa B2.out 5).trans rfl
 have f2 := fun i => ae B2.out i
 go_wp2_with fail
 go_region
 have p0 := blk_far6 (blk_far6 (blk_fill6 (l := [.int .i64 0, .bool false, .int .u8 0, .int .u8 0, .int .u8 0, .bool false]) B0.out rfl (.int .i64 s.mp.k) (.bool s.mp.o) (.int .u8 s.mp.l) (.int .u8 s.mp.h) (.int .u8 s.mp.r) (.bool s.mp.md)) (b := w.heap.size + 1) (by omega) 0 1 2 3 4 5 (.int .u8 s.lv.s) (.int .u8 s.lv.m) (.int .u8 s.lv.h) (.int .u16 s.lv.d) (.bool s.lv.ht) (.bool s.lv.cy)) (b := w.heap.size + 2) (by omega) 0 1 2 3 4 5 (.int .u8 s.hd.s) (.int .u8 s.hd.m) (.int .u8 s.hd.h) (.int .u16 s.hd.d) (.bool s.hd.ht) (.bool s.hd.cy)
 have p1 := blk_far6 (blk_fill6 (l := [.int .u8 0, .int .u8 0, .int .u8 0, .int .u16 0, .bool false, .bool false]) (blk_far6 B1.out (b := w.heap.size) (by omega) 0 1 2 3 4 5 (.int .i64 s.mp.k) (.bool s.mp.o) (.int .u8 s.mp.l) (.int .u8 s.mp.h) (.int .u8 s.mp.r) (.bool s.mp.md)) rfl (.int .u8 s.lv.s) (.int .u8 s.lv.m) (.int .u8 s.lv.h) (.int .u16 s.lv.d) (.bool s.lv.ht) (.bool s.lv.cy)) (b := w.heap.size + 2) (by omega) 0 1 2 3 4 5 (.int .u8 s.hd.s) (.int .u8 s.hd.m) (.int .u8 s.hd.h) (.int .u16 s.hd.d) (.bool s.hd.ht) (.bool s.hd.cy)
 have p2 := blk_fill6 (l := [.int .u8 0, .int .u8 0, .int .u8 0, .int .u16 0, .bool false, .bool false]) (blk_far6 (blk_far6 B2.out (b := w.heap.size) (by omega) 0 1 2 3 4 5 (.int .i64 s.mp.k) (.bool s.mp.o) (.int .u8 s.mp.l) (.int .u8 s.mp.h) (.int .u8 s.mp.r) (.bool s.mp.md)) (b := w.heap.size + 1) (by omega) 0 1 2 3 4 5 (.int .u8 s.lv.s) (.int .u8 s.lv.m) (.int .u8 s.lv.h) (.int .u16 s.lv.d) (.bool s.lv.ht) (.bool s.lv.cy)) rfl (.int .u8 s.hd.s) (.int .u8 s.hd.m) (.int .u8 s.hd.h) (.int .u16 s.hd.d) (.bool s.hd.ht) (.bool s.hd.cy)
 have p3 := below6 (below6 (below6 HB.out (b := w.heap.size) (by omega) 0 1 2 3 4 5 (.int .i64 s.mp.k) (.bool s.mp.o) (.int .u8 s.mp.l) (.int .u8 s.mp.h) (.int .u8 s.mp.r) (.bool s.mp.md)) (b := w.heap.size + 1) (by omega) 0 1 2 3 4 5 (.int .u8 s.lv.s) (.int .u8 s.lv.m) (.int .u8 s.lv.h) (.int .u16 s.lv.d) (.bool s.lv.ht) (.bool s.lv.cy)) (b := w.heap.size + 2) (by omega) 0 1 2 3 4 5 (.int .u8 s.hd.s) (.int .u8 s.hd.m) (.int .u8 s.hd.h) (.int .u16 s.hd.d) (.bool s.hd.ht) (.bool s.hd.cy)
 clear c0 c1 c2 c3 c4 c5 c6 c7 c8 c9 c10 c11 c12 c13 c14 c15 c16 c17 e00 e01 e02 e03 e04 e05 e10 e11 e12 e13 e14 e15 e20 e21 e22 e23 e24 e25 f0 f1 f2 fz n0 n1 n2 H1 HH B0 B1 B2 HB
 replace p0 := ap p0
 replace p1 := ap p1
 replace p2 := ap p2
 replace p3 := aj p3
 generalize (((((((((((((((((((W1.setCell ⟨w.heap.size, 0, none⟩ (.int .i64 s.mp.k)).setCell ⟨w.heap.size, 1, none⟩ (.bool s.mp.o)).setCell ⟨w.heap.size, 2, none⟩ (.int .u8 s.mp.l)).setCell ⟨w.heap.size, 3, none⟩ (.int .u8 s.mp.h)).setCell ⟨w.heap.size, 4, none⟩ (.int .u8 s.mp.r)).setCell ⟨w.heap.size, 5, none⟩ (.bool s.mp.md)).setCell ⟨w.heap.size + 1, 0, none⟩ (.int .u8 s.lv.s)).setCell ⟨w.heap.size + 1, 1, none⟩ (.int .u8 s.lv.m)).setCell ⟨w.heap.size + 1, 2, none⟩ (.int .u8 s.lv.h)).setCell ⟨w.heap.size + 1, 3, none⟩ (.int .u16 s.lv.d)).setCell ⟨w.heap.size + 1, 4, none⟩ (.bool s.lv.ht)).setCell ⟨w.heap.size + 1, 5, none⟩ (.bool s.lv.cy)).setCell ⟨w.heap.size + 2, 0, none⟩ (.int .u8 s.hd.s)).setCell ⟨w.heap.size + 2, 1, none⟩ (.int .u8 s.hd.m)).setCell ⟨w.heap.size + 2, 2, none⟩ (.int .u8 s.hd.h)).setCell ⟨w.heap.size + 2, 3, none⟩ (.int .u16 s.hd.d)).setCell ⟨w.heap.size + 2, 4, none⟩ (.bool s.hd.ht)).setCell ⟨w.heap.size + 2, 5, none⟩ (.bool s.hd.cy))).drew = Y at p0 p1 p2 p3 ⊢
 have u00 : Y.cell? ⟨w.heap.size, 0, none⟩ = some (.int .i64 s.mp.k) := (aa p0 0).trans rfl
 have u01 : Y.cell? ⟨w.heap.size, 1, none⟩ = some (.bool s.mp.o) := (aa p0 1).trans rfl
 have u02 : Y.cell? ⟨w.heap.size, 2, none⟩ = some (.int .u8 s.mp.l) := (aa p0 2).trans rfl
 have u03 : Y.cell? ⟨w.heap.size, 3, none⟩ = some (.int .u8 s.mp.h) := (aa p0 3).trans rfl
 have u04 : Y.cell? ⟨w.heap.size, 4, none⟩ = some (.int .u8 s.mp.r) := (aa p0 4).trans rfl
 have u05 : Y.cell? ⟨w.heap.size, 5, none⟩ = some (.bool s.mp.md) := (aa p0 5).trans rfl
 have u10 : Y.cell? ⟨w.heap.size + 1, 0, none⟩ = some (.int .u8 s.lv.s) := (aa p1 0).trans rfl
 have u11 : Y.cell? ⟨w.heap.size + 1, 1, none⟩ = some (.int .u8 s.lv.m) := (aa p1 1).trans rfl
 have u12 : Y.cell? ⟨w.heap.size + 1, 2, none⟩ = some (.int .u8 s.lv.h) := (aa p1 2).trans rfl
 have u13 : Y.cell? ⟨w.heap.size + 1, 3, none⟩ = some (.int .u16 s.lv.d) := (aa p1 3).trans rfl
 have u14 : Y.cell? ⟨w.heap.size + 1, 4, none⟩ = some (.bool s.lv.ht) := (aa p1 4).trans rfl
 have u15 : Y.cell? ⟨w.heap.size + 1, 5, none⟩ = some (.bool s.lv.cy) := (aa p1 5).trans rfl
 have u20 : Y.cell? ⟨w.heap.size + 2, 0, none⟩ = some (.int .u8 s.hd.s) := (aa p2 0).trans rfl
 have u21 : Y.cell? ⟨w.heap.size + 2, 1, none⟩ = some (.int .u8 s.hd.m) := (aa p2 1).trans rfl
 have u22 : Y.cell? ⟨w.heap.size + 2, 2, none⟩ = some (.int .u8 s.hd.h) := (aa p2 2).trans rfl
 have u23 : Y.cell? ⟨w.heap.size + 2, 3, none⟩ = some (.int .u16 s.hd.d) := (aa p2 3).trans rfl
 have u24 : Y.cell? ⟨w.heap.size + 2, 4, none⟩ = some (.bool s.hd.ht) := (aa p2 4).trans rfl
 have u25 : Y.cell? ⟨w.heap.size + 2, 5, none⟩ = some (.bool s.hd.cy) := (aa p2 5).trans rfl
 go_wp2_with fail
 exact bodyPost_ret (v := .tuple #[s.mp.v, s.lv.v, s.hd.v]) (by simp [results, Try.results17, go_sem, u00, u01, u02, u03, u04, u05, u10, u11, u12, u13, u14, u15, u20, u21, u22, u23, u24, u25]) rfl ⟨rfl, p3⟩
theorem state_nil (w : World) :
  Calls Try.prog 17 #[.pointer none] w fun e w' => e = .returned (.tuple #[Mp.v ⟨0, false, 0, 0, 0, false⟩, Ck.v ⟨0, 0, 0, 0, false, false⟩, Ck.v ⟨0, 0, 0, 0, false, false⟩]) ∧ Below w.heap.size w w' := by
 go_enter Try.func17, Try.ntmps17
 go_wp2
 go_returns
 exact ⟨rfl, by go_grown⟩
def Held (w : World) (B : Nat) (A : Option Addr) (c : Nat) (l : List Int) : Prop :=
 l.length ≤ c ∧ l.length ≤ 9223372036854775807 ∧ ((A = none ∧ l = []) ∨ ∃ g, A = some ⟨g, 0, none⟩ ∧ B ≤ g ∧ HeadL w g l)
theorem held_of_R {w : World} {base : Nat} {ok : Nat → Prop} {v : Value} {l : List Int} (h : Kd.R (Kd.int .u8) 5 w base ok v l) : ∃ A c, v = .slice A l.length c ∧ Held w base A c l := by
 rcases (Kd.own_of_R h).2 with ⟨rfl, hz⟩ | ⟨g, c, cur, rfl, hg, hcur, hci, hm, _, htk⟩
 ·have e : l = [] := List.eq_nil_of_length_eq_zero hz
  subst e
  exact ⟨none, 0, rfl, by simp, by simp, Or.inl ⟨rfl, rfl⟩⟩
 ·refine ⟨_, c, rfl, hci, by have : maxLen = 9223372036854775807 := rfl; omega, Or.inr ⟨g, rfl, hg, cur, hcur, fun i hi => ?_⟩⟩
  have q : (cur.toList.take (l.length * 1))[i]? = (encs (Value.int .u8) l)[i]? := by rw [htk]
  rw [List.getElem?_take_of_lt (by omega)] at q
  rw [← Array.getElem?_toList, q]
  simp [encs, rd, hi]
theorem Held.upto {w w' : World} {B : Nat} {A : Option Addr} {c : Nat} {l : List Int} {S : Nat → Prop} (h : Held w B A c l) (u : Upto S w w') (hS : ∀ k, S k → k < B) : Held w' B A c l := by
 obtain ⟨h1, h2, h3⟩ := h
 refine ⟨h1, h2, ?_⟩
 rcases h3 with h3 | ⟨g, hA, hB, hh⟩
 ·exact Or.inl h3
 ·exact Or.inr ⟨g, hA, hB, hh.of_block (u.block g hh.lt (fun q => by have := hS g q; omega))⟩
theorem Held.below {w w' : World} {B : Nat} {A : Option Addr} {c : Nat} {l : List Int} (h : Held w B A c l) (hb : Below w.heap.size w w') : Held w' B A c l :=
 h.upto (S := fun _ => False) (Upto.of_below hb) (fun _ q => q.elim)
theorem Held.C {w : World} {B : Nat} {A : Option Addr} {c : Nat} {l : List Int} (h : Held w B A c l) : Kd.C (Kd.int .u8) w A l.length l := by
 obtain ⟨h1, h2, h3⟩ := h
 rcases h3 with ⟨rfl, rfl⟩ | ⟨g, rfl, hB, hh⟩
 ·exact ⟨rfl, by simp, fun z => absurd z (by simp)⟩
 ·exact hh.reads h2
theorem C_text {w : World} {A : Option Addr} {c : Nat} {l : List Int} (h : Kd.C (Kd.int .u8) w A l.length l) : (convert 22 9 (.slice A l.length c)).run Try.prog w = .ok (.string (strOfNums l)) w :=
 Kd.C_string Try.underlying22 Try.underlying5 Try.underlying9 h
theorem Held.text {w : World} {B : Nat} {A : Option Addr} {c : Nat} {l : List Int} (h : Held w B A c l) : (convert 22 9 (.slice A l.length c)).run Try.prog w = .ok (.string (strOfNums l)) w := C_text h.C
theorem HeadL.put {w : World} {g : Nat} {L : List Int} (h : HeadL w g L) (i : Nat) (x : Int) : HeadL (w.setCell ⟨g, i, none⟩ (.int .u8 x)) g (L.set i x) := by
 obtain ⟨cs, h1, h2⟩ := h
 refine ⟨_, an h1 i (.int .u8 x) rfl, fun j hj => ?_⟩
 simp only [List.length_set] at hj
 simp only [Array.getElem?_setIfInBounds]
 by_cases e : i = j
 ·subst e
  have hc : i < cs.size := (Array.getElem?_eq_some_iff.1 (h2 i hj)).1
  simp [hc, rd, hj]
 ·rw [if_neg e, h2 j hj]
  simp [rd, List.getElem?_set_ne e]
theorem HeadL.frozen {w : World} {g : Nat} {L : List Int} (h : HeadL w g L) (i : Nat) : w.frozen? ⟨g, i, none⟩ = false := by
 obtain ⟨cs, h1, h2⟩ := h
 exact ae h1 i
theorem HeadL.far {w : World} {g b : Nat} {L : List Int} (h : HeadL w g L) (hb : g ≠ b) (i : Nat) (v : Value) : HeadL (w.setCell ⟨b, i, none⟩ v) g L := h.of_block (Below.heap_setCell _ _ _ _ hb)
theorem ao.far1 {w : World} {b g : Nat} {r : Rt} (h : ao w b r) (hg : b ≠ g) (i : Nat) (v : Value) : ao (w.setCell ⟨g, i, none⟩ v) b r := al h hg v
theorem head_of_own {w : World} {g : Nat} {cur : Array Value} {l : List Int} (h : w.heap[g]? = some (.cells cur 5 (0, 0))) (htk : cur.toList.take (l.length * 1) = encs (Value.int .u8) l) : HeadL w g l := by
 refine ⟨cur, h, fun i hi => ?_⟩
 have q : (cur.toList.take (l.length * 1))[i]? = (encs (Value.int .u8) l)[i]? := by rw [htk]
 rw [List.getElem?_take_of_lt (by omega)] at q
 rw [← Array.getElem?_toList, q]
 simp [encs, rd, hi]
theorem rwrite_ram (s : Ct) (Ai : Option Addr) (ci : Nat) (Ar : Option Addr) (cr : Nat) (ad v : Int) (at_ : Int) (hlo : decide (ad < 32768) = false) (hr : Puts 38 #[(⟨s, Ai, ci, Ar, cr⟩ : Rt).v, .int .u16 ad] (.int .i64 0)) (ha : Puts 40 #[.agg #[.int .i64 s.mp.k, .bool s.mp.o, .int .u8 s.mp.l, .int .u8 s.mp.h, .int .u8 s.mp.r, .bool s.mp.md], .int .u16 ad, .int .i64 s.ram.length] (.int .i64 at_)) (hat : decide (0 ≤ at_) = true) (hlt : at_ < s.ram.length) (hln : s.ram.length ≤ 1048576) (w : World) (hI : Kd.C (Kd.int .u8) w Ar s.ram.length s.ram) :
  Calls Try.prog 19 #[(⟨s, Ai, ci, Ar, cr⟩ : Rt).v, .int .u16 ad, .int .u8 v] w fun e w' => ∃ A c, e = .returned (⟨{ s with ram := s.ram.set at_.toNat v }, Ai, ci, A, c⟩ : Rt).v ∧ Held w' w.heap.size A c (s.ram.set at_.toNat v) ∧ Below w.heap.size w w' := by
 have HI := ab.mk hI
 have HLn := ab.mk hln
 have H0 := ab.mk (of_decide_eq_true hat)
 clear hI hln
 have BX0 := ab.mk (ao.alloc (ao.new w (⟨s, Ai, ci, Ar, cr⟩ : Rt)) (.cells [.bool false, .string ⟨#[]⟩, .int .u8 0, .int .i64 0, .bool false, .bool false, .bool false, .int .i64 0, .int .i64 0, .int .u8 0, .int .u16 0, .slice none 0 0, .slice none 0 0, .int .i64 0, .bool false, .int .u8 0, .int .u8 0, .int .u8 0, .bool false, .int .u8 0, .int .u8 0, .int .u8 0, .int .u16 0, .bool false, .bool false, .int .u8 0, .int .u8 0, .int .u8 0, .int .u16 0, .bool false, .bool false, .int .u8 0].toArray 36))
 have BZ0 := ab.mk (bF w (.cells (⟨s, Ai, ci, Ar, cr⟩ : Rt).cells.toArray 36) [.bool false, .string ⟨#[]⟩, .int .u8 0, .int .i64 0, .bool false, .bool false, .bool false, .int .i64 0, .int .i64 0, .int .u8 0, .int .u16 0, .slice none 0 0, .slice none 0 0, .int .i64 0, .bool false, .int .u8 0, .int .u8 0, .int .u8 0, .bool false, .int .u8 0, .int .u8 0, .int .u8 0, .int .u16 0, .bool false, .bool false, .int .u8 0, .int .u8 0, .int .u8 0, .int .u16 0, .bool false, .bool false, .int .u8 0] rfl)
 have HB0 := ab.mk (ac (ac (Below.refl w.heap.size w) (.cells (⟨s, Ai, ci, Ar, cr⟩ : Rt).cells.toArray 36)) (.cells [.bool false, .string ⟨#[]⟩, .int .u8 0, .int .i64 0, .bool false, .bool false, .bool false, .int .i64 0, .int .i64 0, .int .u8 0, .int .u16 0, .slice none 0 0, .slice none 0 0, .int .i64 0, .bool false, .int .u8 0, .int .u8 0, .int .u8 0, .bool false, .int .u8 0, .int .u8 0, .int .u8 0, .int .u16 0, .bool false, .bool false, .int .u8 0, .int .u8 0, .int .u8 0, .int .u16 0, .bool false, .bool false, .int .u8 0].toArray 36))
 go_enter Try.func19, Try.ntmps19
 go_wp2_with (first | ((with_reducible refine ar (N := 9) rfl ?_); have BX := BX0; have BZ := BZ0; have HB := HB0; clear BX0 BZ0 HB0; generalize (w.alloc (.cells #[.bool true, .string s.hdr.t, .int .u8 s.hdr.kd, .int .i64 s.hdr.mp, .bool s.hdr.rm, .bool s.hdr.bt, .bool s.hdr.ck, .int .i64 s.hdr.bk, .int .i64 s.hdr.sz, .int .u8 s.hdr.sm, .int .u16 s.hdr.wh, .slice Ai s.img.length ci, .slice Ar s.ram.length cr, .int .i64 s.mp.k, .bool s.mp.o, .int .u8 s.mp.l, .int .u8 s.mp.h, .int .u8 s.mp.r, .bool s.mp.md, .int .u8 s.lv.s, .int .u8 s.lv.m, .int .u8 s.lv.h, .int .u16 s.lv.d, .bool s.lv.ht, .bool s.lv.cy, .int .u8 s.hd.s, .int .u8 s.hd.m, .int .u8 s.hd.h, .int .u16 s.hd.d, .bool s.hd.ht, .bool s.hd.cy, .int .u8 s.last] 36)).alloc (.cells #[.bool false, .string ⟨#[]⟩, .int .u8 0, .int .i64 0, .bool false, .bool false, .bool false, .int .i64 0, .int .i64 0, .int .u8 0, .int .u16 0, .slice none 0 0, .slice none 0 0, .int .i64 0, .bool false, .int .u8 0, .int .u8 0, .int .u8 0, .bool false, .int .u8 0, .int .u8 0, .int .u8 0, .int .u16 0, .bool false, .bool false, .int .u8 0, .int .u8 0, .int .u8 0, .int .u16 0, .bool false, .bool false, .int .u8 0] 36) = W at BX BZ HB ⊢; have c0 : W.cell? ⟨w.heap.size, 0, none⟩ = some (.bool true) := ao.c0 BX.out) | ((with_reducible refine ar (N := 41) rfl ?_); refine wpList_load_mid rfl 36 (.tmp 3) rfl w.heap.size 0 rfl _ _ (ao.range BX.out) rfl rfl (by kernel_rfl) ?_; simp only [Act.put, List.setIfInBounds_toArray, List.set_cons_zero, List.set_cons_succ]))
 clear c0
 refine (hr _).mono ?_
 rintro e' w1 ⟨rfl, hb⟩
 have b_ := ab.mk (BX.out.below hb)
 have z_ := ab.mk (BZ.out.below hb)
 have h_ := ab.mk (ak HB.out hb)
 clear BX BZ HB hb
 have BX := b_
 have BZ := z_
 have HB := h_
 clear b_ z_ h_
 have c13 : w1.cell? ⟨w.heap.size, 13, none⟩ = some (.int .i64 s.mp.k) := BX.out.c13
 have c14 : w1.cell? ⟨w.heap.size, 14, none⟩ = some (.bool s.mp.o) := BX.out.c14
 have c15 : w1.cell? ⟨w.heap.size, 15, none⟩ = some (.int .u8 s.mp.l) := BX.out.c15
 have c16 : w1.cell? ⟨w.heap.size, 16, none⟩ = some (.int .u8 s.mp.h) := BX.out.c16
 have c17 : w1.cell? ⟨w.heap.size, 17, none⟩ = some (.int .u8 s.mp.r) := BX.out.c17
 have c18 : w1.cell? ⟨w.heap.size, 18, none⟩ = some (.bool s.mp.md) := BX.out.c18
 have c12 : w1.cell? ⟨w.heap.size, 12, none⟩ = some (.slice Ar s.ram.length cr) := BX.out.c12
 go_wp2_with fail
 refine (ha _).mono ?_
 rintro e' w2 ⟨rfl, hb⟩
 have b_ := ab.mk (BX.out.below hb)
 have z_ := ab.mk (BZ.out.below hb)
 have h_ := ab.mk (ak HB.out hb)
 clear BX BZ HB hb
 have BX := b_
 have BZ := z_
 have HB := h_
 clear b_ z_ h_
 clear c13 c14 c15 c16 c17 c18 c12
 have HL2 := ab.mk BZ.out.lt
 go_wp2_with (first
  | ((with_reducible refine ar (N := 64) rfl ?_); refine Kd.R_lit (Kd.int .u8) (w0 := w2) w2.heap.size 5 ?hg (N := 64) ?hd (xs := ([] : List Int)) (inner := []) (ok := fun _ => True) (okp := fun _ => True) ?hr ?hp (fun _ hk => hk) trivial (Below.refl _ _) (Nat.le_refl _) (by simp) ?_; (case hd => rfl); (case hg => rfl); (case hr => first | (go_simp; done) | (go_simp; rfl)); (case hp => exact (Reps.none _ _)); intro v5 w5 ho hb5 hg_ hnew_; clear hg_ hnew_; have HO := ab.mk ho; have HB5 := ab.mk hb5; have c12 : w5.cell? ⟨w.heap.size, 12, none⟩ = some (.slice Ar s.ram.length cr) := ao.c12 (BX.out.below hb5); clear ho hb5)
  | ((with_reducible refine bJ (b := .append) (xs := #[.tmp 64, .tmp 66]) rfl ?_); at_builtin; refine Kd.R_append_rows (Kd.int .u8) (w0 := w2) w2.heap.size rfl (.tmp 64) (.tmp 66) 22 5 (.int .u8 0) 1 rfl Try.underlying22 info5 rfl (by decide) (by omega) v5 [] s.ram _ _ _ (fun _ => True) (fun _ => False) rfl rfl HO.out ?aR (fun _ _ h => h) (fun _ h => h.elim) (fun _ _ => trivial) HB5.out (aw HB5.out) ?aL ?_; (case aR => exact Kd.C_below HI.out (ak HB.out HB5.out)); (case aL => have := HLn.out; simp; omega); intro v6 w6 ho hb6 hg hat_; clear hg hat_ c12; rw [List.nil_append] at ho; rcases (Kd.own_of_R ho).2 with ⟨rfl, hz⟩ | ⟨gi, cg, cur, rfl, hgi, hcur, hcg, _, _, htk⟩; (exfalso; have := H0.out; omega); have HH6 := ab.mk (head_of_own hcur htk); have HCG := ab.mk hcg; have HGI := ab.mk hgi; have b_ := ab.mk (BX.out.below hb6); have z_ := ab.mk (BZ.out.below hb6); have h_ := ab.mk (ak HB.out hb6); clear BX BZ HB ho hb6 hcur htk hcg hgi HO HB5; have BX := b_; have BZ := z_; have HB := h_; clear b_ z_ h_; have c12 : w6.cell? ⟨w.heap.size, 12, none⟩ = some (.slice Ar s.ram.length cr) := ao.c12 BX.out; have fz12 : w6.frozen? ⟨w.heap.size, 12, none⟩ = false := ao.frozen BX.out 12)
  | ((with_reducible refine ar (N := 69) rfl ?_); have hne := ab.mk (show gi ≠ w.heap.size by have := HGI.out; have := HL2.out; omega); have hne2 := ab.mk (show w.heap.size + 1 ≠ gi by have := HGI.out; have := HL2.out; omega); have b_ := ab.mk (BX.out.row (some ⟨gi, 0, none⟩) cg s.ram); have z_ := ab.mk (BZ.out.far1 (g := w.heap.size) (by omega) 12 (.slice (some ⟨gi, 0, none⟩) s.ram.length cg)); have h_ := ab.mk (show Below w.heap.size w (World.setCell w6 ⟨w.heap.size, 12, none⟩ (.slice (some ⟨gi, 0, none⟩) s.ram.length cg)) from ag HB.out (Nat.le_refl _)); have k_ := ab.mk (HH6.out.far hne.out 12 (.slice (some ⟨gi, 0, none⟩) s.ram.length cg)); clear BX BZ HB HH6 c12 fz12; have BX := b_; have BZ := z_; have HB := h_; have HH6 := k_; clear b_ z_ h_ k_; generalize World.setCell w6 _ _ = W7 at BX BZ HB HH6 ⊢; have c12 : W7.cell? ⟨w.heap.size, 12, none⟩ = some (.slice (some ⟨gi, 0, none⟩) s.ram.length cg) := ao.c12 BX.out; have hc7 : W7.cell? ⟨gi, at_.toNat, none⟩ = some (.int .u8 (rd s.ram at_)) := (HH6.out.cell at_.toNat (by have := H0.out; omega)).trans (by rw [show ((at_.toNat : Nat) : Int) = at_ by have := H0.out; omega]); have hf7 := HH6.out.frozen at_.toNat; have h0p : 0 ≤ at_ := H0.out; have hcg : at_ < cg := by have := HCG.out; omega)
  | ((with_reducible refine ar (N := 74) rfl ?_); have b_ := ab.mk (BX.out.far1 (g := gi) (fun e => hne.out e.symm) at_.toNat (.int .u8 v)); have z_ := ab.mk (BZ.out.far1 (g := gi) hne2.out at_.toNat (.int .u8 v)); have h_ := ab.mk (show Below w.heap.size w (World.setCell W7 ⟨gi, at_.toNat, none⟩ (.int .u8 v)) from ag HB.out (by have := HGI.out; have := HL2.out; omega)); have k_ := ab.mk (HH6.out.put at_.toNat v); clear BX BZ HB HH6 c12 hc7 hf7; have BX := b_; have BZ := z_; have HB := h_; have HH6 := k_; clear b_ z_ h_ k_; generalize World.setCell W7 _ _ = W8 at BX BZ HB HH6 ⊢; refine wpList_load_mid rfl 36 (.tmp 3) rfl w.heap.size 0 rfl _ _ (ao.range BX.out) rfl rfl (by kernel_rfl) ?_; simp only [Act.put, List.setIfInBounds_toArray, List.set_cons_zero, List.set_cons_succ])
  | ((with_reducible refine az (t := 36) (p := 6) (v := .tmp 74) rfl ?_); have k6 := ab.mk (HH6.out.of_block (cv (w := W8) (g := w.heap.size + 1) (⟨s, Ai, ci, some ⟨gi, 0, none⟩, cg⟩ : Rt).cells 0 gi (fun e => hne2.out e.symm))); have y0 := ab.mk (BZ.out.fill (⟨s, Ai, ci, some ⟨gi, 0, none⟩, cg⟩ : Rt)); have y1 := ab.mk (ay HB.out (w.heap.size + 1) 0 (by omega) (⟨s, Ai, ci, some ⟨gi, 0, none⟩, cg⟩ : Rt).cells); refine wpList_store_mid rfl 36 (.tmp 6) (.tmp 74) rfl (w.heap.size + 1) 0 _ rfl rfl BZ.out.there (by kernel_rfl) (Rt.one _) ?_; generalize World.setCells _ (w.heap.size + 1) 0 _ = Y at y0 y1 k6 ⊢; simp only [Act.put, List.setIfInBounds_toArray, List.set_cons_zero, List.set_cons_succ]))
 refine bodyPost_ret (results_cell_row rfl _ _ _ _ _ _ _ rfl y0.out rfl rfl (by kernel_rfl)) rfl ⟨some ⟨gi, 0, none⟩, cg, by simp, ⟨by have := HCG.out; simp only [List.length_set]; omega, by have := HLn.out; simp only [List.length_set]; omega, Or.inr ⟨gi, rfl, by have := HGI.out; have := HL2.out; omega, k6.out⟩⟩, y1.out⟩
theorem rload_none (s : Ct) (Ai : Option Addr) (ci : Nat) (Ar : Option Addr) (cr : Nat) (x : Value) (hbt : s.hdr.bt = false) : Puts 25 #[(⟨s, Ai, ci, Ar, cr⟩ : Rt).v, x] (.tuple #[(⟨s, Ai, ci, Ar, cr⟩ : Rt).v, .int .i64 7]) := by
 intro w
 have H5 := ab.mk hbt
 clear hbt
 have BX0 := ab.mk (ao.alloc (ao.new w (⟨s, Ai, ci, Ar, cr⟩ : Rt)) (.cells [.bool false, .string ⟨#[]⟩, .int .u8 0, .int .i64 0, .bool false, .bool false, .bool false, .int .i64 0, .int .i64 0, .int .u8 0, .int .u16 0, .slice none 0 0, .slice none 0 0, .int .i64 0, .bool false, .int .u8 0, .int .u8 0, .int .u8 0, .bool false, .int .u8 0, .int .u8 0, .int .u8 0, .int .u16 0, .bool false, .bool false, .int .u8 0, .int .u8 0, .int .u8 0, .int .u16 0, .bool false, .bool false, .int .u8 0].toArray 36))
 have BZ0 := ab.mk (bF w (.cells (⟨s, Ai, ci, Ar, cr⟩ : Rt).cells.toArray 36) [.bool false, .string ⟨#[]⟩, .int .u8 0, .int .i64 0, .bool false, .bool false, .bool false, .int .i64 0, .int .i64 0, .int .u8 0, .int .u16 0, .slice none 0 0, .slice none 0 0, .int .i64 0, .bool false, .int .u8 0, .int .u8 0, .int .u8 0, .bool false, .int .u8 0, .int .u8 0, .int .u8 0, .int .u16 0, .bool false, .bool false, .int .u8 0, .int .u8 0, .int .u8 0, .int .u16 0, .bool false, .bool false, .int .u8 0] rfl)
 have HB0 := ab.mk (ac (ac (Below.refl w.heap.size w) (.cells (⟨s, Ai, ci, Ar, cr⟩ : Rt).cells.toArray 36)) (.cells [.bool false, .string ⟨#[]⟩, .int .u8 0, .int .i64 0, .bool false, .bool false, .bool false, .int .i64 0, .int .i64 0, .int .u8 0, .int .u16 0, .slice none 0 0, .slice none 0 0, .int .i64 0, .bool false, .int .u8 0, .int .u8 0, .int .u8 0, .bool false, .int .u8 0, .int .u8 0, .int .u8 0, .int .u16 0, .bool false, .bool false, .int .u8 0, .int .u8 0, .int .u8 0, .int .u16 0, .bool false, .bool false, .int .u8 0].toArray 36))
 go_enter Try.func25, Try.ntmps25
 go_wp2_with (first
  | ((with_reducible refine ar (N := 11) rfl ?_); have BX := BX0; have BZ := BZ0; have HB := HB0; clear BX0 BZ0 HB0; generalize (w.alloc (.cells #[.bool true, .string s.hdr.t, .int .u8 s.hdr.kd, .int .i64 s.hdr.mp, .bool s.hdr.rm, .bool s.hdr.bt, .bool s.hdr.ck, .int .i64 s.hdr.bk, .int .i64 s.hdr.sz, .int .u8 s.hdr.sm, .int .u16 s.hdr.wh, .slice Ai s.img.length ci, .slice Ar s.ram.length cr, .int .i64 s.mp.k, .bool s.mp.o, .int .u8 s.mp.l, .int .u8 s.mp.h, .int .u8 s.mp.r, .bool s.mp.md, .int .u8 s.lv.s, .int .u8 s.lv.m, .int .u8 s.lv.h, .int .u16 s.lv.d, .bool s.lv.ht, .bool s.lv.cy, .int .u8 s.hd.s, .int .u8 s.hd.m, .int .u8 s.hd.h, .int .u16 s.hd.d, .bool s.hd.ht, .bool s.hd.cy, .int .u8 s.last] 36)).alloc (.cells #[.bool false, .string ⟨#[]⟩, .int .u8 0, .int .i64 0, .bool false, .bool false, .bool false, .int .i64 0, .int .i64 0, .int .u8 0, .int .u16 0, .slice none 0 0, .slice none 0 0, .int .i64 0, .bool false, .int .u8 0, .int .u8 0, .int .u8 0, .bool false, .int .u8 0, .int .u8 0, .int .u8 0, .int .u16 0, .bool false, .bool false, .int .u8 0, .int .u8 0, .int .u8 0, .int .u16 0, .bool false, .bool false, .int .u8 0] 36) = W at BX BZ HB ⊢; have c0 : W.cell? ⟨w.heap.size, 0, none⟩ = some (.bool true) := ao.c0 BX.out; have c5 : W.cell? ⟨w.heap.size, 5, none⟩ = some (.bool false) := (ao.c5 BX.out).trans (by rw [H5.out]))
  | ((with_reducible refine ar (N := 20) rfl ?_); refine wpList_load_mid rfl 36 (.tmp 2) rfl w.heap.size 0 rfl _ _ (ao.range BX.out) rfl rfl (by kernel_rfl) ?_; simp only [Act.put, List.setIfInBounds_toArray, List.set_cons_zero, List.set_cons_succ])
  | ((with_reducible refine az (t := 36) (p := 4) (v := .tmp 20) rfl ?_); have y0 := ab.mk (BZ.out.fill (⟨s, Ai, ci, Ar, cr⟩ : Rt)); have y1 := ab.mk (ay HB.out (w.heap.size + 1) 0 (by omega) (⟨s, Ai, ci, Ar, cr⟩ : Rt).cells); refine wpList_store_mid rfl 36 (.tmp 4) (.tmp 20) rfl (w.heap.size + 1) 0 _ rfl rfl BZ.out.there (by kernel_rfl) (Rt.one _) ?_; generalize World.setCells _ (w.heap.size + 1) 0 _ = Y at y0 y1 ⊢; simp only [Act.put, List.setIfInBounds_toArray, List.set_cons_zero, List.set_cons_succ]))
 refine bodyPost_ret (bq rfl _ _ _ _ _ _ _ rfl y0.out rfl rfl (by kernel_rfl)) rfl ⟨rfl, y1.out⟩
theorem rload_size (s : Ct) (Ai : Option Addr) (ci : Nat) (Ar : Option Addr) (cr : Nat) (A : Option Addr) (c : Nat) (l : List Int) (L : List Int) (hbt : s.hdr.bt = true) (hne : ((l.length : Int) == (L.length : Int)) = false) (w : World) (hs : ∀ w1 : World, Below w.heap.size w w1 → Calls Try.prog 23 #[(⟨s, Ai, ci, Ar, cr⟩ : Rt).v] w1 fun e w' => ∃ v0 : Value, e = .returned v0 ∧ Kd.R (Kd.int .u8) 5 w' w1.heap.size (fun _ => True) v0 L ∧ Below w1.heap.size w1 w') :
  Calls Try.prog 25 #[(⟨s, Ai, ci, Ar, cr⟩ : Rt).v, .slice A l.length c] w fun e w' => e = .returned (.tuple #[(⟨s, Ai, ci, Ar, cr⟩ : Rt).v, .int .i64 5]) ∧ Below w.heap.size w w' := by
 have H5 := ab.mk hbt
 clear hbt
 have HS := ab.mk hs
 clear hs
 have BX0 := ab.mk (ao.alloc (ao.new w (⟨s, Ai, ci, Ar, cr⟩ : Rt)) (.cells [.bool false, .string ⟨#[]⟩, .int .u8 0, .int .i64 0, .bool false, .bool false, .bool false, .int .i64 0, .int .i64 0, .int .u8 0, .int .u16 0, .slice none 0 0, .slice none 0 0, .int .i64 0, .bool false, .int .u8 0, .int .u8 0, .int .u8 0, .bool false, .int .u8 0, .int .u8 0, .int .u8 0, .int .u16 0, .bool false, .bool false, .int .u8 0, .int .u8 0, .int .u8 0, .int .u16 0, .bool false, .bool false, .int .u8 0].toArray 36))
 have BZ0 := ab.mk (bF w (.cells (⟨s, Ai, ci, Ar, cr⟩ : Rt).cells.toArray 36) [.bool false, .string ⟨#[]⟩, .int .u8 0, .int .i64 0, .bool false, .bool false, .bool false, .int .i64 0, .int .i64 0, .int .u8 0, .int .u16 0, .slice none 0 0, .slice none 0 0, .int .i64 0, .bool false, .int .u8 0, .int .u8 0, .int .u8 0, .bool false, .int .u8 0, .int .u8 0, .int .u8 0, .int .u16 0, .bool false, .bool false, .int .u8 0, .int .u8 0, .int .u8 0, .int .u16 0, .bool false, .bool false, .int .u8 0] rfl)
 have HB0 := ab.mk (ac (ac (Below.refl w.heap.size w) (.cells (⟨s, Ai, ci, Ar, cr⟩ : Rt).cells.toArray 36)) (.cells [.bool false, .string ⟨#[]⟩, .int .u8 0, .int .i64 0, .bool false, .bool false, .bool false, .int .i64 0, .int .i64 0, .int .u8 0, .int .u16 0, .slice none 0 0, .slice none 0 0, .int .i64 0, .bool false, .int .u8 0, .int .u8 0, .int .u8 0, .bool false, .int .u8 0, .int .u8 0, .int .u8 0, .int .u16 0, .bool false, .bool false, .int .u8 0, .int .u8 0, .int .u8 0, .int .u16 0, .bool false, .bool false, .int .u8 0].toArray 36))
 go_enter Try.func25, Try.ntmps25
 go_wp2_with (first
  | ((with_reducible refine ar (N := 11) rfl ?_); have BX := BX0; have BZ := BZ0; have HB := HB0; clear BX0 BZ0 HB0; generalize (w.alloc (.cells #[.bool true, .string s.hdr.t, .int .u8 s.hdr.kd, .int .i64 s.hdr.mp, .bool s.hdr.rm, .bool s.hdr.bt, .bool s.hdr.ck, .int .i64 s.hdr.bk, .int .i64 s.hdr.sz, .int .u8 s.hdr.sm, .int .u16 s.hdr.wh, .slice Ai s.img.length ci, .slice Ar s.ram.length cr, .int .i64 s.mp.k, .bool s.mp.o, .int .u8 s.mp.l, .int .u8 s.mp.h, .int .u8 s.mp.r, .bool s.mp.md, .int .u8 s.lv.s, .int .u8 s.lv.m, .int .u8 s.lv.h, .int .u16 s.lv.d, .bool s.lv.ht, .bool s.lv.cy, .int .u8 s.hd.s, .int .u8 s.hd.m, .int .u8 s.hd.h, .int .u16 s.hd.d, .bool s.hd.ht, .bool s.hd.cy, .int .u8 s.last] 36)).alloc (.cells #[.bool false, .string ⟨#[]⟩, .int .u8 0, .int .i64 0, .bool false, .bool false, .bool false, .int .i64 0, .int .i64 0, .int .u8 0, .int .u16 0, .slice none 0 0, .slice none 0 0, .int .i64 0, .bool false, .int .u8 0, .int .u8 0, .int .u8 0, .bool false, .int .u8 0, .int .u8 0, .int .u8 0, .int .u16 0, .bool false, .bool false, .int .u8 0, .int .u8 0, .int .u8 0, .int .u16 0, .bool false, .bool false, .int .u8 0] 36) = W at BX BZ HB ⊢; have c0 : W.cell? ⟨w.heap.size, 0, none⟩ = some (.bool true) := ao.c0 BX.out; have c5 : W.cell? ⟨w.heap.size, 5, none⟩ = some (.bool true) := (ao.c5 BX.out).trans (by rw [H5.out]))
  | ((with_reducible refine ar (N := 21) rfl ?_); refine wpList_load_mid rfl 36 (.tmp 2) rfl w.heap.size 0 rfl _ _ (ao.range BX.out) rfl rfl (by kernel_rfl) ?_; simp only [Act.put, List.setIfInBounds_toArray, List.set_cons_zero, List.set_cons_succ]))
 refine (HS.out _ HB.out).mono ?_
 rintro e' w1 ⟨v0, rfl, hr, hb⟩
 obtain ⟨A2, cc2, rfl, hcc2, hC2⟩ := Kd.R_reads hr
 clear hr hC2 c0 c5 HS
 have b_ := ab.mk (BX.out.below hb)
 have z_ := ab.mk (BZ.out.below hb)
 have h_ := ab.mk (ak HB.out hb)
 clear BX BZ HB hb
 have BX := b_
 have BZ := z_
 have HB := h_
 clear b_ z_ h_
 go_wp2_with (first
  | ((with_reducible refine ar (N := 28) rfl ?_); refine wpList_load_mid rfl 36 (.tmp 2) rfl w.heap.size 0 rfl _ _ (ao.range BX.out) rfl rfl (by kernel_rfl) ?_; simp only [Act.put, List.setIfInBounds_toArray, List.set_cons_zero, List.set_cons_succ])
  | ((with_reducible refine az (t := 36) (p := 4) (v := .tmp 28) rfl ?_); have y0 := ab.mk (BZ.out.fill (⟨s, Ai, ci, Ar, cr⟩ : Rt)); have y1 := ab.mk (ay HB.out (w.heap.size + 1) 0 (by omega) (⟨s, Ai, ci, Ar, cr⟩ : Rt).cells); refine wpList_store_mid rfl 36 (.tmp 4) (.tmp 28) rfl (w.heap.size + 1) 0 _ rfl rfl BZ.out.there (by kernel_rfl) (Rt.one _) ?_; generalize World.setCells _ (w.heap.size + 1) 0 _ = Y at y0 y1 ⊢; simp only [Act.put, List.setIfInBounds_toArray, List.set_cons_zero, List.set_cons_succ]))
 refine bodyPost_ret (bq rfl _ _ _ _ _ _ _ rfl y0.out rfl rfl (by kernel_rfl)) rfl ⟨rfl, y1.out⟩
theorem blk_two' (w : World) (A B : Obj) : ((w.alloc A).alloc B).heap[w.heap.size + 1]? = some B := by
 have q := aC (w.alloc A) B
 simpa using q
theorem rload_text (s : Ct) (Ai : Option Addr) (ci : Nat) (Ar : Option Addr) (cr : Nat) (A : Option Addr) (c : Nat) (l : List Int) (L : List Int) (hbt : s.hdr.bt = true) (hck : s.hdr.ck = true) (x y : Ck) (bad : Int) (hq : ((l.length : Int) == (L.length : Int)) = true) (hln : s.ram.length ≤ 1048576) (he : (bad == 0) = false) (hn : l.length = s.ram.length + 10) (hc : l.length ≤ c) (hof : ∀ (A' : Option Addr) (c' : Nat) (w1 : World), Kd.C (Kd.int .u8) w1 A' (l.drop s.ram.length).length (l.drop s.ram.length) → (l.drop s.ram.length).length ≤ c' → Calls Try.prog 51 #[.slice A' (l.drop s.ram.length).length c'] w1 fun e w' => e = .returned (.tuple #[.agg #[.int .u8 x.s, .int .u8 x.m, .int .u8 x.h, .int .u16 x.d, .bool x.ht, .bool x.cy], .agg #[.int .u8 y.s, .int .u8 y.m, .int .u8 y.h, .int .u16 y.d, .bool y.ht, .bool y.cy], .int .i64 bad]) ∧ Below w1.heap.size w1 w') (w : World) (hr : Kd.C (Kd.int .u8) w A l.length l) (hs : ∀ w1 : World, Below w.heap.size w w1 → Calls Try.prog 23 #[(⟨s, Ai, ci, Ar, cr⟩ : Rt).v] w1 fun e w' => ∃ v0 : Value, e = .returned v0 ∧ Kd.R (Kd.int .u8) 5 w' w1.heap.size (fun _ => True) v0 L ∧ Below w1.heap.size w1 w') :
  Calls Try.prog 25 #[(⟨s, Ai, ci, Ar, cr⟩ : Rt).v, .slice A l.length c] w fun e w' => e = .returned (.tuple #[(⟨s, Ai, ci, Ar, cr⟩ : Rt).v, .int .i64 bad]) ∧ Below w.heap.size w w' := by
 have H5 := ab.mk hbt
 clear hbt
 have HS := ab.mk hs
 clear hs
 have H6 := ab.mk hck
 have HOF := ab.mk hof
 clear hck hof
 have HN := ab.mk hn
 have HC := ab.mk hc
 have HI := ab.mk hr
 have hcn : ¬ c = s.ram.length := by omega
 have hcm : ¬ s.ram.length = c := by omega
 have HD := ab.mk (Kd.C_drop (m := s.ram.length) hr (by omega) hc)
 obtain ⟨ad, rfl, _⟩ := Kd.at_int hr 0 (by omega) (by omega)
 have hs0 : (0 : Int) ≤ (s.ram.length : Int) := by omega
 have hs1 : (s.ram.length : Int) ≤ (l.length : Int) := by omega
 have hs2 : (l.length : Int) ≤ (c : Int) := by omega
 have hs3 : (s.ram.length : Int) ≤ (c : Int) := by omega
 have HD2 := HD.out
 rw [if_neg hcn] at HD2
 have e1 : s.ram.length * (Kd.int .u8).sz = s.ram.length := Nat.mul_one _
 rw [Option.map_some, e1] at HD2
 have HQ : ab (Kd.C (Kd.int .u8) w (some (ad.add s.ram.length)) (l.drop s.ram.length).length (l.drop s.ram.length)) := ab.mk HD2
 clear e1 HD HD2 hr hc hn
 have BX0 := ab.mk (ao.alloc (ao.new w (⟨s, Ai, ci, Ar, cr⟩ : Rt)) (.cells [.bool false, .string ⟨#[]⟩, .int .u8 0, .int .i64 0, .bool false, .bool false, .bool false, .int .i64 0, .int .i64 0, .int .u8 0, .int .u16 0, .slice none 0 0, .slice none 0 0, .int .i64 0, .bool false, .int .u8 0, .int .u8 0, .int .u8 0, .bool false, .int .u8 0, .int .u8 0, .int .u8 0, .int .u16 0, .bool false, .bool false, .int .u8 0, .int .u8 0, .int .u8 0, .int .u16 0, .bool false, .bool false, .int .u8 0].toArray 36))
 have BZ0 := ab.mk (bF w (.cells (⟨s, Ai, ci, Ar, cr⟩ : Rt).cells.toArray 36) [.bool false, .string ⟨#[]⟩, .int .u8 0, .int .i64 0, .bool false, .bool false, .bool false, .int .i64 0, .int .i64 0, .int .u8 0, .int .u16 0, .slice none 0 0, .slice none 0 0, .int .i64 0, .bool false, .int .u8 0, .int .u8 0, .int .u8 0, .bool false, .int .u8 0, .int .u8 0, .int .u8 0, .int .u16 0, .bool false, .bool false, .int .u8 0, .int .u8 0, .int .u8 0, .int .u16 0, .bool false, .bool false, .int .u8 0] rfl)
 have HB0 := ab.mk (ac (ac (Below.refl w.heap.size w) (.cells (⟨s, Ai, ci, Ar, cr⟩ : Rt).cells.toArray 36)) (.cells [.bool false, .string ⟨#[]⟩, .int .u8 0, .int .i64 0, .bool false, .bool false, .bool false, .int .i64 0, .int .i64 0, .int .u8 0, .int .u16 0, .slice none 0 0, .slice none 0 0, .int .i64 0, .bool false, .int .u8 0, .int .u8 0, .int .u8 0, .bool false, .int .u8 0, .int .u8 0, .int .u8 0, .int .u16 0, .bool false, .bool false, .int .u8 0, .int .u8 0, .int .u8 0, .int .u16 0, .bool false, .bool false, .int .u8 0].toArray 36))
 go_enter Try.func25, Try.ntmps25
 go_wp2_with (first
  | ((with_reducible refine ar (N := 11) rfl ?_); have BX := BX0; have BZ := BZ0; have HB := HB0; clear BX0 BZ0 HB0; generalize (w.alloc (.cells #[.bool true, .string s.hdr.t, .int .u8 s.hdr.kd, .int .i64 s.hdr.mp, .bool s.hdr.rm, .bool s.hdr.bt, .bool s.hdr.ck, .int .i64 s.hdr.bk, .int .i64 s.hdr.sz, .int .u8 s.hdr.sm, .int .u16 s.hdr.wh, .slice Ai s.img.length ci, .slice Ar s.ram.length cr, .int .i64 s.mp.k, .bool s.mp.o, .int .u8 s.mp.l, .int .u8 s.mp.h, .int .u8 s.mp.r, .bool s.mp.md, .int .u8 s.lv.s, .int .u8 s.lv.m, .int .u8 s.lv.h, .int .u16 s.lv.d, .bool s.lv.ht, .bool s.lv.cy, .int .u8 s.hd.s, .int .u8 s.hd.m, .int .u8 s.hd.h, .int .u16 s.hd.d, .bool s.hd.ht, .bool s.hd.cy, .int .u8 s.last] 36)).alloc (.cells #[.bool false, .string ⟨#[]⟩, .int .u8 0, .int .i64 0, .bool false, .bool false, .bool false, .int .i64 0, .int .i64 0, .int .u8 0, .int .u16 0, .slice none 0 0, .slice none 0 0, .int .i64 0, .bool false, .int .u8 0, .int .u8 0, .int .u8 0, .bool false, .int .u8 0, .int .u8 0, .int .u8 0, .int .u16 0, .bool false, .bool false, .int .u8 0, .int .u8 0, .int .u8 0, .int .u16 0, .bool false, .bool false, .int .u8 0] 36) = W at BX BZ HB ⊢; have c0 : W.cell? ⟨w.heap.size, 0, none⟩ = some (.bool true) := ao.c0 BX.out; have c5 : W.cell? ⟨w.heap.size, 5, none⟩ = some (.bool true) := (ao.c5 BX.out).trans (by rw [H5.out]))
  | ((with_reducible refine ar (N := 21) rfl ?_); refine wpList_load_mid rfl 36 (.tmp 2) rfl w.heap.size 0 rfl _ _ (ao.range BX.out) rfl rfl (by kernel_rfl) ?_; simp only [Act.put, List.setIfInBounds_toArray, List.set_cons_zero, List.set_cons_succ]))
 refine (HS.out _ HB.out).mono ?_
 rintro e' w1 ⟨v0, rfl, hr, hb⟩
 obtain ⟨A2, cc2, rfl, hcc2, hC2⟩ := Kd.R_reads hr
 clear hr hC2 c0 c5 HS
 have b_ := ab.mk (BX.out.below hb)
 have z_ := ab.mk (BZ.out.below hb)
 have h_ := ab.mk (ak HB.out hb)
 clear BX BZ HB hb
 have BX := b_
 have BZ := z_
 have HB := h_
 clear b_ z_ h_
 have c12 : w1.cell? ⟨w.heap.size, 12, none⟩ = some (.slice Ar s.ram.length cr) := BX.out.c12
 have c6 : w1.cell? ⟨w.heap.size, 6, none⟩ = some (.bool true) := (ao.c6 BX.out).trans (by rw [H6.out])
 go_wp2_with fail
 have hlen : (l.drop s.ram.length).length = l.length - s.ram.length := by simp
 have q := HOF.out (some (ad.add s.ram.length)) (c - s.ram.length) w1 (Kd.C_below HQ.out HB.out) (by have := HC.out; have := HN.out; omega)
 rw [hlen] at q
 refine q.mono ?_
 clear q hlen
 rintro e' w2 ⟨rfl, hb⟩
 clear c12 c6
 have b_ := ab.mk (BX.out.below hb)
 have z_ := ab.mk (BZ.out.below hb)
 have h_ := ab.mk (ak HB.out hb)
 clear BX BZ HB hb
 have BX := b_
 have BZ := z_
 have HB := h_
 clear b_ z_ h_
 go_wp2_with (first
  | ((with_reducible refine ar (N := 45) rfl ?_); have b_ := ab.mk (ao.alloc (ao.alloc BX.out (.cells #[.int .u8 x.s, .int .u8 x.m, .int .u8 x.h, .int .u16 x.d, .bool x.ht, .bool x.cy] 34)) (.cells #[.int .u8 y.s, .int .u8 y.m, .int .u8 y.h, .int .u16 y.d, .bool y.ht, .bool y.cy] 34)); have z_ := ab.mk (bo.alloc (bo.alloc BZ.out (.cells #[.int .u8 x.s, .int .u8 x.m, .int .u8 x.h, .int .u16 x.d, .bool x.ht, .bool x.cy] 34)) (.cells #[.int .u8 y.s, .int .u8 y.m, .int .u8 y.h, .int .u16 y.d, .bool y.ht, .bool y.cy] 34)); have h_ := ab.mk (ac (ac HB.out (.cells #[.int .u8 x.s, .int .u8 x.m, .int .u8 x.h, .int .u16 x.d, .bool x.ht, .bool x.cy] 34)) (.cells #[.int .u8 y.s, .int .u8 y.m, .int .u8 y.h, .int .u16 y.d, .bool y.ht, .bool y.cy] 34)); have x_ := ab.mk (ah (aC w2 (.cells #[.int .u8 x.s, .int .u8 x.m, .int .u8 x.h, .int .u16 x.d, .bool x.ht, .bool x.cy] 34)) (.cells #[.int .u8 y.s, .int .u8 y.m, .int .u8 y.h, .int .u16 y.d, .bool y.ht, .bool y.cy] 34)); have y_ := ab.mk (blk_two' w2 (.cells #[.int .u8 x.s, .int .u8 x.m, .int .u8 x.h, .int .u16 x.d, .bool x.ht, .bool x.cy] 34) (.cells #[.int .u8 y.s, .int .u8 y.m, .int .u8 y.h, .int .u16 y.d, .bool y.ht, .bool y.cy] 34)); have n_ := ab.mk (BZ.out.lt); clear BX BZ HB; have BX := b_; have BZ := z_; have HB := h_; have B8 := x_; have B9 := y_; have N2 := n_; clear b_ z_ h_ x_ y_ n_; generalize (w2.alloc (.cells #[.int .u8 x.s, .int .u8 x.m, .int .u8 x.h, .int .u16 x.d, .bool x.ht, .bool x.cy] 34)).alloc (.cells #[.int .u8 y.s, .int .u8 y.m, .int .u8 y.h, .int .u16 y.d, .bool y.ht, .bool y.cy] 34) = W3 at BX BZ HB B8 B9 ⊢; (with_reducible refine ar (N := 45) rfl ?_); refine wpList_load_mid rfl 36 (.tmp 2) rfl w.heap.size 0 rfl _ _ (ao.range BX.out) rfl rfl (by kernel_rfl) ?_; simp only [Act.put, List.setIfInBounds_toArray, List.set_cons_zero, List.set_cons_succ])
  | ((with_reducible refine az (t := 36) (p := 4) (v := .tmp 45) rfl ?_); have y0 := ab.mk (BZ.out.fill (⟨s, Ai, ci, Ar, cr⟩ : Rt)); have y1 := ab.mk (ay HB.out (w.heap.size + 1) 0 (by omega) (⟨s, Ai, ci, Ar, cr⟩ : Rt).cells); refine wpList_store_mid rfl 36 (.tmp 4) (.tmp 45) rfl (w.heap.size + 1) 0 _ rfl rfl BZ.out.there (by kernel_rfl) (Rt.one _) ?_; generalize World.setCells _ (w.heap.size + 1) 0 _ = Y at y0 y1 ⊢; simp only [Act.put, List.setIfInBounds_toArray, List.set_cons_zero, List.set_cons_succ]))
 refine bodyPost_ret (bq rfl _ _ _ _ _ _ _ rfl y0.out rfl rfl (by kernel_rfl)) rfl ⟨rfl, y1.out⟩
end Go.Proofs.Ytmjjojbedllmgaa.Hand
