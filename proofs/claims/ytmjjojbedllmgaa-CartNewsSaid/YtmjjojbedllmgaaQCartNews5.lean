/- What the proof of the statement CartNews stands on, part 5. (Packed by pack.py out of this session's texts.) -/
import Derived.Deep.MidRow
import Derived.Deep.RegionWith
import Derived.BigRegion
import Derived.Handy
import Derived.Deep.RegionLaw
import Derived.Laws.CopyRow
import Derived.Laws.CopyOwn
import Derived.StillTailTactics
import Derived.Test.YtmjjojbedllmgaaQCartNews0
import Derived.Test.YtmjjojbedllmgaaQCartNews1
import Derived.Test.YtmjjojbedllmgaaQCartNews2
import Derived.Test.YtmjjojbedllmgaaQCartNews4
set_option linter.unusedVariables false
set_option linter.unusedSimpArgs false
set_option maxRecDepth 100000
set_option maxHeartbeats 8000000
section
namespace Go.Proofs.Ytmjjojbedllmgaa.Hand
open Go.RowKit
open Go.Proofs.Ytmjjojbedllmgaa.G
open Go.Proofs.YtmjjojbedllmgaaW.PrintWords Go.Proofs.YtmjjojbedllmgaaW.PrintLast Go.Proofs.YtmjjojbedllmgaaW.PrintMore
def Ct.latch (s : Ct) (v : Int) : Ct := if v = 1 ∧ s.last = 0 then { s with hd := s.lv, last := v } else { s with last := v }
theorem latch_at {w : World} {a : Ad} {s : Ct} (h : CartAt w a s) (v : Int) :
  Calls Try.prog 42 #[a.p, .int .u8 v] w fun e w' => e = .returned (.tuple #[]) ∧ CartAt w' a (s.latch v) ∧ Upto a.S w w' := by
 have c6 := h.c6
 have c7 := h.c7
 have c8 := h.c8
 have c9 := h.c9
 have c10 := h.c10
 have c11 := h.c11
 have c12 := h.c12
 have c13 := h.c13
 have c14 := h.c14
 have c15 := h.c15
 have c16 := h.c16
 have c17 := h.c17
 have c18 := h.c18
 have fz := h.frozen
 have HH := Aside0.mk h
 clear h
 by_cases hv : v = 1
 case neg =>
  have hv' : (v == 1) = false := by simp [hv]
  rw [Ct.latch, if_neg (fun q => hv q.1)]
  go_enter Try.func42, Try.ntmps42
  go_wp2
  go_returns
  refine ⟨rfl, HH.out.stored ?_ ?_ rfl rfl⟩
  ·have p := blk_setL HH.out.box 18 (.int .u8 v)
   rw [cells_last] at p
   exact p
  ·with_reducible (refine Upto.setB ?_ _ _; exact Upto.refl _ _)
 case pos =>
  subst hv
  by_cases hl : s.last = 0
  case neg =>
   rw [Ct.latch, if_neg (fun q => hl q.2)]
   go_enter Try.func42, Try.ntmps42
   go_wp2
   go_returns
   refine ⟨rfl, HH.out.stored ?_ ?_ rfl rfl⟩
   ·have p := blk_setL HH.out.box 18 (.int .u8 1)
    rw [cells_last] at p
    exact p
   ·with_reducible (refine Upto.setB ?_ _ _; exact Upto.refl _ _)
  case pos =>
   rw [Ct.latch, if_pos ⟨rfl, hl⟩]
   rw [hl] at c18
   go_enter Try.func42, Try.ntmps42
   go_wp2
   go_returns
   refine ⟨rfl, HH.out.stored ?_ ?_ rfl rfl⟩
   ·have p := (blk_setL (blk_setL (blk_setL (blk_setL (blk_setL (blk_setL HH.out.box 12 (.int .u8 s.lv.s)) 13 (.int .u8 s.lv.m)) 14 (.int .u8 s.lv.h)) 15 (.int .u16 s.lv.d)) 16 (.bool s.lv.ht)) 17 (.bool s.lv.cy))
    rw [cells_hd] at p
    replace p := blk_setL p 18 (.int .u8 1)
    rw [cells_last] at p
    exact p
   ·with_reducible (refine Upto.setB ?_ _ _; refine Upto.setB ?_ _ _; refine Upto.setB ?_ _ _; refine Upto.setB ?_ _ _; refine Upto.setB ?_ _ _; refine Upto.setB ?_ _ _; refine Upto.setB ?_ _ _; exact Upto.refl _ _)
def Ct.rom (s : Ct) (ad : Int) : Option Int := mapper_Rom.f s.mp.k s.mp.o s.mp.l s.mp.h s.mp.r s.mp.md ad s.img.length
def Ct.at (s : Ct) (ad : Int) : Int := ramF s.mp.k s.mp.o s.mp.h s.mp.r s.mp.md ad s.ram.length
theorem at_eq (s : Ct) (ad : Int) : mapper_Ram.f s.mp.k s.mp.o s.mp.l s.mp.h s.mp.r s.mp.md ad s.ram.length = some (s.at ad) := rfl
theorem read_rom {w : World} {a : Ad} {s : Ct} (h : CartAt w a s) (ad n : Int) (hn : s.rom ad = some n) (h0 : n ≥ 0) (h1 : n < s.img.length) :
  Calls Try.prog 13 #[a.p, .int .u16 ad] w fun e w' => e = .returned (.int .u8 (rd s.img n)) ∧ Below w.heap.size w w' := by
 have HH := Aside0.mk h
 have HN : Aside0 (mapper_Rom.f s.mp.k s.mp.o s.mp.l s.mp.h s.mp.r s.mp.md ad s.img.length = some n) := Aside0.mk hn
 clear h hn
 go_enter Try.func13, Try.ntmps13
 go_wp2_with fail
 refine (none_at HH.out).mono ?_
 rintro e' w1 ⟨rfl, hw⟩
 replace hw := hw.symm
 subst hw
 have c0 := HH.out.c0
 have c1 := HH.out.c1
 have c2 := HH.out.c2
 have c3 := HH.out.c3
 have c4 := HH.out.c4
 have c5 := HH.out.c5
 have c29 := HH.out.c29
 have c30 := HH.out.c30
 go_wp2_with fail
 go_region_with ((go_at_call 33; ((with_reducible refine (mapper_Rom.calls _ _ _ _ _ _ _ _ n _ HN.out).mono ?_)); rintro e' w1 ⟨rfl, hb⟩; have HB : Aside0 (Below w.heap.size w w1) := Aside0.mk (Below.trans (below_drew1 (Below.refl _ _)) hb); clear hb))
 all_goals (
  have h1 := HH.out.below HB.out
  have d29 := h1.c29
  have hcell := h1.image.cell n.toNat (by omega)
  have hx : ((n.toNat : Nat) : Int) = n := by omega
  rw [hx] at hcell
  clear hx h1
  go_wp2
  go_returns
  exact ⟨rfl, by have q := HB.out; go_grown⟩)
theorem read_reg {w : World} {a : Ad} {s : Ct} (h : CartAt w a s) (ad m v e : Int) (hn : s.rom ad = some (-1)) (hg : s.reg ad = some m) (hm : m > 0) (hv : clock_Read.f s.hd.s s.hd.m s.hd.h s.hd.d s.hd.ht s.hd.cy m = some (v, e)) :
  Calls Try.prog 13 #[a.p, .int .u16 ad] w fun e w' => e = .returned (.int .u8 v) ∧ Below w.heap.size w w' := by
 have HR := Aside0.mk hv
 clear hv
 have HH := Aside0.mk h
 have HN : Aside0 (mapper_Rom.f s.mp.k s.mp.o s.mp.l s.mp.h s.mp.r s.mp.md ad s.img.length = some (-1)) := Aside0.mk hn
 have HG := Aside0.mk hg
 clear h hn hg
 go_enter Try.func13, Try.ntmps13
 go_wp2_with fail
 refine (none_at HH.out).mono ?_
 rintro e' w1 ⟨rfl, hw⟩
 replace hw := hw.symm
 subst hw
 have c0 := HH.out.c0
 have c1 := HH.out.c1
 have c2 := HH.out.c2
 have c3 := HH.out.c3
 have c4 := HH.out.c4
 have c5 := HH.out.c5
 have c29 := HH.out.c29
 have c30 := HH.out.c30
 go_wp2_with fail
 go_region_with ((go_at_call 33; ((with_reducible refine (mapper_Rom.calls _ _ _ _ _ _ _ _ (-1) _ HN.out).mono ?_)); rintro e' w1 ⟨rfl, hb⟩; have HB : Aside0 (Below w.heap.size w w1) := Aside0.mk (Below.trans (below_drew1 (Below.refl _ _)) hb); clear hb))
 all_goals (
  have h1 := HH.out.below HB.out
  have HV := Aside0.mk h1
  clear c0 c1 c2 c3 c4 c5 c29 c30 h1
  go_wp2_with fail
  refine (reg_at HV.out ad _ HG.out).mono ?_
  rintro e' w2 ⟨rfl, hb⟩
  have HB2 : Aside0 (Below w.heap.size w w2) := Aside0.mk (below_step HB.out hb)
  clear hb HB HV
  have h2 := HH.out.below HB2.out
  have H2 := Aside0.mk h2
  clear h2 HH
  have d12 := H2.out.c12
  have d13 := H2.out.c13
  have d14 := H2.out.c14
  have d15 := H2.out.c15
  have d16 := H2.out.c16
  have d17 := H2.out.c17
  go_wp2_with fail
  refine (clock_Read.calls _ _ _ _ _ _ _ _ _ _ HR.out).mono ?_
  rintro e' w3 ⟨rfl, hb⟩
  have HB3 := Aside0.mk (below_step HB2.out hb)
  clear hb
  go_wp2
  go_returns
  exact ⟨rfl, HB3.out⟩)
theorem read_ram {w : World} {a : Ad} {s : Ct} (h : CartAt w a s) (ad m n : Int) (hn : s.rom ad = some (-1)) (hg : s.reg ad = some m) (hm : ¬ m > 0) (hat : s.at ad = n) (h0 : n ≥ 0) (h1 : n < s.ram.length) :
  Calls Try.prog 13 #[a.p, .int .u16 ad] w fun e w' => e = .returned (.int .u8 (rd s.ram n)) ∧ Below w.heap.size w w' := by
 have HA : Aside0 (mapper_Ram.f s.mp.k s.mp.o s.mp.l s.mp.h s.mp.r s.mp.md ad s.ram.length = some n) := Aside0.mk ((at_eq s ad).trans (congrArg some hat))
 clear hat
 have HH := Aside0.mk h
 have HN : Aside0 (mapper_Rom.f s.mp.k s.mp.o s.mp.l s.mp.h s.mp.r s.mp.md ad s.img.length = some (-1)) := Aside0.mk hn
 have HG := Aside0.mk hg
 clear h hn hg
 go_enter Try.func13, Try.ntmps13
 go_wp2_with fail
 refine (none_at HH.out).mono ?_
 rintro e' w1 ⟨rfl, hw⟩
 replace hw := hw.symm
 subst hw
 have c0 := HH.out.c0
 have c1 := HH.out.c1
 have c2 := HH.out.c2
 have c3 := HH.out.c3
 have c4 := HH.out.c4
 have c5 := HH.out.c5
 have c29 := HH.out.c29
 have c30 := HH.out.c30
 go_wp2_with fail
 go_region_with ((go_at_call 33; ((with_reducible refine (mapper_Rom.calls _ _ _ _ _ _ _ _ (-1) _ HN.out).mono ?_)); rintro e' w1 ⟨rfl, hb⟩; have HB : Aside0 (Below w.heap.size w w1) := Aside0.mk (Below.trans (below_drew1 (Below.refl _ _)) hb); clear hb))
 all_goals (
  have h1 := HH.out.below HB.out
  have HV := Aside0.mk h1
  clear c0 c1 c2 c3 c4 c5 c29 c30 h1
  go_wp2_with fail
  refine (reg_at HV.out ad _ HG.out).mono ?_
  rintro e' w2 ⟨rfl, hb⟩
  have HB2 : Aside0 (Below w.heap.size w w2) := Aside0.mk (below_step HB.out hb)
  clear hb HB HV
  have h2 := HH.out.below HB2.out
  have H2 := Aside0.mk h2
  clear h2 HH
  have d0 := H2.out.c0
  have d1 := H2.out.c1
  have d2 := H2.out.c2
  have d3 := H2.out.c3
  have d4 := H2.out.c4
  have d5 := H2.out.c5
  have d30 := H2.out.c30
  go_wp2_with fail
  go_region_with ((go_at_call 36; ((with_reducible refine (mapper_Ram.calls _ _ _ _ _ _ _ _ _ _ HA.out).mono ?_)); rintro e' w3 ⟨rfl, hb⟩; have HB3 : Aside0 (Below w.heap.size w w3) := Aside0.mk (below_step HB2.out (Below.trans (below_drew1 (Below.refl _ _)) hb)); have H3 : Aside0 (CartAt w3 a s) := Aside0.mk (H2.out.below (Below.trans (below_drew1 (Below.refl _ _)) hb)); clear hb))
  all_goals (
   have g30 := H3.out.c30
   have hcell := H3.out.row.cell n.toNat (by omega)
   have hx : ((n.toNat : Nat) : Int) = n := by omega
   rw [hx] at hcell
   clear hx
   go_wp2
   go_returns
   exact ⟨rfl, HB3.out⟩))
theorem read_no {w : World} {a : Ad} {s : Ct} (h : CartAt w a s) (ad m n : Int) (hn : s.rom ad = some (-1)) (hg : s.reg ad = some m) (hm : ¬ m > 0) (hat : s.at ad = n) (h0 : ¬ n ≥ 0) :
  Calls Try.prog 13 #[a.p, .int .u16 ad] w fun e w' => e = .returned (.int .u8 255) ∧ Below w.heap.size w w' := by
 have HA : Aside0 (mapper_Ram.f s.mp.k s.mp.o s.mp.l s.mp.h s.mp.r s.mp.md ad s.ram.length = some n) := Aside0.mk ((at_eq s ad).trans (congrArg some hat))
 clear hat
 have HH := Aside0.mk h
 have HN : Aside0 (mapper_Rom.f s.mp.k s.mp.o s.mp.l s.mp.h s.mp.r s.mp.md ad s.img.length = some (-1)) := Aside0.mk hn
 have HG := Aside0.mk hg
 clear h hn hg
 go_enter Try.func13, Try.ntmps13
 go_wp2_with fail
 refine (none_at HH.out).mono ?_
 rintro e' w1 ⟨rfl, hw⟩
 replace hw := hw.symm
 subst hw
 have c0 := HH.out.c0
 have c1 := HH.out.c1
 have c2 := HH.out.c2
 have c3 := HH.out.c3
 have c4 := HH.out.c4
 have c5 := HH.out.c5
 have c29 := HH.out.c29
 have c30 := HH.out.c30
 go_wp2_with fail
 go_region_with ((go_at_call 33; ((with_reducible refine (mapper_Rom.calls _ _ _ _ _ _ _ _ (-1) _ HN.out).mono ?_)); rintro e' w1 ⟨rfl, hb⟩; have HB : Aside0 (Below w.heap.size w w1) := Aside0.mk (Below.trans (below_drew1 (Below.refl _ _)) hb); clear hb))
 all_goals (
  have h1 := HH.out.below HB.out
  have HV := Aside0.mk h1
  clear c0 c1 c2 c3 c4 c5 c29 c30 h1
  go_wp2_with fail
  refine (reg_at HV.out ad _ HG.out).mono ?_
  rintro e' w2 ⟨rfl, hb⟩
  have HB2 : Aside0 (Below w.heap.size w w2) := Aside0.mk (below_step HB.out hb)
  clear hb HB HV
  have h2 := HH.out.below HB2.out
  have H2 := Aside0.mk h2
  clear h2 HH
  have d0 := H2.out.c0
  have d1 := H2.out.c1
  have d2 := H2.out.c2
  have d3 := H2.out.c3
  have d4 := H2.out.c4
  have d5 := H2.out.c5
  have d30 := H2.out.c30
  go_wp2_with fail
  go_region_with ((go_at_call 36; ((with_reducible refine (mapper_Ram.calls _ _ _ _ _ _ _ _ _ _ HA.out).mono ?_)); rintro e' w3 ⟨rfl, hb⟩; have HB3 : Aside0 (Below w.heap.size w w3) := Aside0.mk (below_step HB2.out (Below.trans (below_drew1 (Below.refl _ _)) hb)); have H3 : Aside0 (CartAt w3 a s) := Aside0.mk (H2.out.below (Below.trans (below_drew1 (Below.refl _ _)) hb)); clear hb))
  all_goals (
   go_wp2
   go_returns
   exact ⟨rfl, HB3.out⟩))
theorem read_nil (ad : Int) (w : World) :
  Calls Try.prog 13 #[.pointer none, .int .u16 ad] w fun e w' => e = .returned (.int .u8 255) ∧ Below w.heap.size w w' := by
 go_enter Try.func13, Try.ntmps13
 go_wp2
 go_returns
 exact ⟨rfl, by go_grown⟩
end Go.Proofs.Ytmjjojbedllmgaa.Hand
end
section
namespace Go.Proofs.Ytmjjojbedllmgaa.Hand
open Go.RowKit
open Go.Proofs.Ytmjjojbedllmgaa.G
open Go.Proofs.YtmjjojbedllmgaaW.PrintWords Go.Proofs.YtmjjojbedllmgaaW.PrintLast Go.Proofs.YtmjjojbedllmgaaW.PrintMore
theorem blk_at1 (w : World) (A B : Obj) : ((w.alloc A).alloc B).heap[w.heap.size + 1]? = some B := by
 have z := heap_alloc_new (w.alloc A) B
 have e : (w.alloc A).heap.size = w.heap.size + 1 := by simp
 rwa [e] at z
theorem wr_first (k : Int) (o : Bool) (l h r : Int) (md : Bool) (a v k' : Int) (o' : Bool) (l' h' r' : Int) (md' : Bool)  (ha : ¬ a ≥ 32768) (hw : ∀ W : World, Calls Try.prog 98 #[.agg #[], .agg #[.int .i64 1, .bool o, .int .u8 l, .int .u8 h, .int .u8 r, .bool md], .int .i64 (IntKind.i64.wrap (a / 4096)), .int .u8 v] W fun e w' => e = .returned (.agg #[.int .i64 k', .bool o', .int .u8 l', .int .u8 h', .int .u8 r', .bool md']) ∧ Below W.heap.size W w') (w : World) :
    Calls Try.prog 41 #[.agg #[.int .i64 1, .bool o, .int .u8 l, .int .u8 h, .int .u8 r, .bool md], .int .u16 a, .int .u8 v] w fun e' w' => e' = .returned (.agg #[.int .i64 k', .bool o', .int .u8 l', .int .u8 h', .int .u8 r', .bool md']) ∧ Below w.heap.size w w' := by
  have HW := Aside0.mk hw
  clear hw
  go_enter Try.func41, Try.ntmps41
  go_wp2
  have bk := blk_alloc (blk_new w (.cells #[.int .i64 1, .bool o, .int .u8 l, .int .u8 h, .int .u8 r, .bool md] 32)) (.cells #[.int .i64 0, .bool false, .int .u8 0, .int .u8 0, .int .u8 0, .bool false] 32)
  have br := blk_at1 w (.cells #[.int .i64 1, .bool o, .int .u8 l, .int .u8 h, .int .u8 r, .bool md] 32) (.cells #[.int .i64 0, .bool false, .int .u8 0, .int .u8 0, .int .u8 0, .bool false] 32)
  have hB := below_alloc (below_alloc (Below.refl w.heap.size w) (.cells #[.int .i64 1, .bool o, .int .u8 l, .int .u8 h, .int .u8 r, .bool md] 32)) (.cells #[.int .i64 0, .bool false, .int .u8 0, .int .u8 0, .int .u8 0, .bool false] 32)
  generalize (w.alloc (.cells #[.int .i64 1, .bool o, .int .u8 l, .int .u8 h, .int .u8 r, .bool md] 32)).alloc (.cells #[.int .i64 0, .bool false, .int .u8 0, .int .u8 0, .int .u8 0, .bool false] 32) = W at bk br hB ⊢
  have BK := Aside0.mk bk
  have BR := Aside0.mk br
  have HB := Aside0.mk hB
  clear bk br hB
  obtain ⟨c0, c1, c2, c3, c4, c5⟩ := c6 BK.out
  obtain ⟨z0, z1, z2, z3, z4, z5⟩ := c6 BR.out
  have fr := fun i => blk_frozen BR.out i
  go_region_held3 (fun w' => w'.cell? ⟨w.heap.size, 0, none⟩ = some (.int .i64 1) ∧ w'.cell? ⟨w.heap.size, 1, none⟩ = some (.bool o) ∧ w'.cell? ⟨w.heap.size, 2, none⟩ = some (.int .u8 l) ∧ w'.cell? ⟨w.heap.size, 3, none⟩ = some (.int .u8 h) ∧ w'.cell? ⟨w.heap.size, 4, none⟩ = some (.int .u8 r) ∧ w'.cell? ⟨w.heap.size, 5, none⟩ = some (.bool md)) (go_keep)
    (first | (go_at_call 68; ((with_reducible refine (of1 _).mono ?_)); rintro e' w2 ⟨rfl, rfl⟩)
           | (go_at_call 98; ((with_reducible refine (HW.out _).mono ?_)); rintro e' w2 ⟨rfl, hb⟩; have n0 := Aside0.mk (blk_below (blk_drew BK.out) hb); have m0 := Aside0.mk (blk_below (blk_drew BR.out) hb); have n1 := Aside0.mk (below_step (below_drew1 HB.out) hb); clear hb; obtain ⟨d0, d1, d2, d3, d4, d5⟩ := c6 n0.out; obtain ⟨y0, y1, y2, y3, y4, y5⟩ := c6 m0.out; have fy := fun i => blk_frozen m0.out i))
  rename_i hHeld
  clear hHeld
  go_wp2
  obtain ⟨q1, q2⟩ := put6 m0.out n1.out (Nat.le_succ _) (.int .i64 k') (.bool o') (.int .u8 l') (.int .u8 h') (.int .u8 r') (.bool md')
  generalize ((((((w2.setCell ⟨w.heap.size + 1, 0, none⟩ (.int .i64 k')).setCell ⟨w.heap.size + 1, 1, none⟩ (.bool o')).setCell ⟨w.heap.size + 1, 2, none⟩ (.int .u8 l')).setCell ⟨w.heap.size + 1, 3, none⟩ (.int .u8 h')).setCell ⟨w.heap.size + 1, 4, none⟩ (.int .u8 r')).setCell ⟨w.heap.size + 1, 5, none⟩ (.bool md')) = Y at q1 q2 ⊢
  obtain ⟨u0, u1, u2, u3, u4, u5⟩ := c6 q1
  exact bodyPost_ret (v := .agg #[.int .i64 k', .bool o', .int .u8 l', .int .u8 h', .int .u8 r', .bool md']) (by simp [results, Try.results41, go_sem, u0, u1, u2, u3, u4, u5]) rfl ⟨rfl, q2⟩
theorem wr_third (k : Int) (o : Bool) (l h r : Int) (md : Bool) (a v k' : Int) (o' : Bool) (l' h' r' : Int) (md' : Bool)  (ha : ¬ a ≥ 32768) (hw : ∀ W : World, Calls Try.prog 104 #[.agg #[], .agg #[.int .i64 3, .bool o, .int .u8 l, .int .u8 h, .int .u8 r, .bool md], .int .i64 (IntKind.i64.wrap (a / 4096)), .int .u8 v] W fun e w' => e = .returned (.agg #[.int .i64 k', .bool o', .int .u8 l', .int .u8 h', .int .u8 r', .bool md']) ∧ Below W.heap.size W w') (w : World) :
    Calls Try.prog 41 #[.agg #[.int .i64 3, .bool o, .int .u8 l, .int .u8 h, .int .u8 r, .bool md], .int .u16 a, .int .u8 v] w fun e' w' => e' = .returned (.agg #[.int .i64 k', .bool o', .int .u8 l', .int .u8 h', .int .u8 r', .bool md']) ∧ Below w.heap.size w w' := by
  have HW := Aside0.mk hw
  clear hw
  go_enter Try.func41, Try.ntmps41
  go_wp2
  have bk := blk_alloc (blk_new w (.cells #[.int .i64 3, .bool o, .int .u8 l, .int .u8 h, .int .u8 r, .bool md] 32)) (.cells #[.int .i64 0, .bool false, .int .u8 0, .int .u8 0, .int .u8 0, .bool false] 32)
  have br := blk_at1 w (.cells #[.int .i64 3, .bool o, .int .u8 l, .int .u8 h, .int .u8 r, .bool md] 32) (.cells #[.int .i64 0, .bool false, .int .u8 0, .int .u8 0, .int .u8 0, .bool false] 32)
  have hB := below_alloc (below_alloc (Below.refl w.heap.size w) (.cells #[.int .i64 3, .bool o, .int .u8 l, .int .u8 h, .int .u8 r, .bool md] 32)) (.cells #[.int .i64 0, .bool false, .int .u8 0, .int .u8 0, .int .u8 0, .bool false] 32)
  generalize (w.alloc (.cells #[.int .i64 3, .bool o, .int .u8 l, .int .u8 h, .int .u8 r, .bool md] 32)).alloc (.cells #[.int .i64 0, .bool false, .int .u8 0, .int .u8 0, .int .u8 0, .bool false] 32) = W at bk br hB ⊢
  have BK := Aside0.mk bk
  have BR := Aside0.mk br
  have HB := Aside0.mk hB
  clear bk br hB
  obtain ⟨c0, c1, c2, c3, c4, c5⟩ := c6 BK.out
  obtain ⟨z0, z1, z2, z3, z4, z5⟩ := c6 BR.out
  have fr := fun i => blk_frozen BR.out i
  go_region_held3 (fun w' => w'.cell? ⟨w.heap.size, 0, none⟩ = some (.int .i64 3) ∧ w'.cell? ⟨w.heap.size, 1, none⟩ = some (.bool o) ∧ w'.cell? ⟨w.heap.size, 2, none⟩ = some (.int .u8 l) ∧ w'.cell? ⟨w.heap.size, 3, none⟩ = some (.int .u8 h) ∧ w'.cell? ⟨w.heap.size, 4, none⟩ = some (.int .u8 r) ∧ w'.cell? ⟨w.heap.size, 5, none⟩ = some (.bool md)) (go_keep)
    (first | (go_at_call 68; ((with_reducible refine (of3 _).mono ?_)); rintro e' w2 ⟨rfl, rfl⟩)
           | (go_at_call 104; ((with_reducible refine (HW.out _).mono ?_)); rintro e' w2 ⟨rfl, hb⟩; have n0 := Aside0.mk (blk_below (blk_drew BK.out) hb); have m0 := Aside0.mk (blk_below (blk_drew BR.out) hb); have n1 := Aside0.mk (below_step (below_drew1 HB.out) hb); clear hb; obtain ⟨d0, d1, d2, d3, d4, d5⟩ := c6 n0.out; obtain ⟨y0, y1, y2, y3, y4, y5⟩ := c6 m0.out; have fy := fun i => blk_frozen m0.out i))
  rename_i hHeld
  clear hHeld
  go_wp2
  obtain ⟨q1, q2⟩ := put6 m0.out n1.out (Nat.le_succ _) (.int .i64 k') (.bool o') (.int .u8 l') (.int .u8 h') (.int .u8 r') (.bool md')
  generalize ((((((w2.setCell ⟨w.heap.size + 1, 0, none⟩ (.int .i64 k')).setCell ⟨w.heap.size + 1, 1, none⟩ (.bool o')).setCell ⟨w.heap.size + 1, 2, none⟩ (.int .u8 l')).setCell ⟨w.heap.size + 1, 3, none⟩ (.int .u8 h')).setCell ⟨w.heap.size + 1, 4, none⟩ (.int .u8 r')).setCell ⟨w.heap.size + 1, 5, none⟩ (.bool md')) = Y at q1 q2 ⊢
  obtain ⟨u0, u1, u2, u3, u4, u5⟩ := c6 q1
  exact bodyPost_ret (v := .agg #[.int .i64 k', .bool o', .int .u8 l', .int .u8 h', .int .u8 r', .bool md']) (by simp [results, Try.results41, go_sem, u0, u1, u2, u3, u4, u5]) rfl ⟨rfl, q2⟩
theorem wr_fifth (k : Int) (o : Bool) (l h r : Int) (md : Bool) (a v k' : Int) (o' : Bool) (l' h' r' : Int) (md' : Bool)  (ha : ¬ a ≥ 32768) (hw : ∀ W : World, Calls Try.prog 108 #[.agg #[], .agg #[.int .i64 5, .bool o, .int .u8 l, .int .u8 h, .int .u8 r, .bool md], .int .i64 (IntKind.i64.wrap (a / 4096)), .int .u8 v] W fun e w' => e = .returned (.agg #[.int .i64 k', .bool o', .int .u8 l', .int .u8 h', .int .u8 r', .bool md']) ∧ Below W.heap.size W w') (w : World) :
    Calls Try.prog 41 #[.agg #[.int .i64 5, .bool o, .int .u8 l, .int .u8 h, .int .u8 r, .bool md], .int .u16 a, .int .u8 v] w fun e' w' => e' = .returned (.agg #[.int .i64 k', .bool o', .int .u8 l', .int .u8 h', .int .u8 r', .bool md']) ∧ Below w.heap.size w w' := by
  have HW := Aside0.mk hw
  clear hw
  go_enter Try.func41, Try.ntmps41
  go_wp2
  have bk := blk_alloc (blk_new w (.cells #[.int .i64 5, .bool o, .int .u8 l, .int .u8 h, .int .u8 r, .bool md] 32)) (.cells #[.int .i64 0, .bool false, .int .u8 0, .int .u8 0, .int .u8 0, .bool false] 32)
  have br := blk_at1 w (.cells #[.int .i64 5, .bool o, .int .u8 l, .int .u8 h, .int .u8 r, .bool md] 32) (.cells #[.int .i64 0, .bool false, .int .u8 0, .int .u8 0, .int .u8 0, .bool false] 32)
  have hB := below_alloc (below_alloc (Below.refl w.heap.size w) (.cells #[.int .i64 5, .bool o, .int .u8 l, .int .u8 h, .int .u8 r, .bool md] 32)) (.cells #[.int .i64 0, .bool false, .int .u8 0, .int .u8 0, .int .u8 0, .bool false] 32)
  generalize (w.alloc (.cells #[.int .i64 5, .bool o, .int .u8 l, .int .u8 h, .int .u8 r, .bool md] 32)).alloc (.cells #[.int .i64 0, .bool false, .int .u8 0, .int .u8 0, .int .u8 0, .bool false] 32) = W at bk br hB ⊢
  have BK := Aside0.mk bk
  have BR := Aside0.mk br
  have HB := Aside0.mk hB
  clear bk br hB
  obtain ⟨c0, c1, c2, c3, c4, c5⟩ := c6 BK.out
  obtain ⟨z0, z1, z2, z3, z4, z5⟩ := c6 BR.out
  have fr := fun i => blk_frozen BR.out i
  go_region_held3 (fun w' => w'.cell? ⟨w.heap.size, 0, none⟩ = some (.int .i64 5) ∧ w'.cell? ⟨w.heap.size, 1, none⟩ = some (.bool o) ∧ w'.cell? ⟨w.heap.size, 2, none⟩ = some (.int .u8 l) ∧ w'.cell? ⟨w.heap.size, 3, none⟩ = some (.int .u8 h) ∧ w'.cell? ⟨w.heap.size, 4, none⟩ = some (.int .u8 r) ∧ w'.cell? ⟨w.heap.size, 5, none⟩ = some (.bool md)) (go_keep)
    (first | (go_at_call 68; ((with_reducible refine (of5 _).mono ?_)); rintro e' w2 ⟨rfl, rfl⟩)
           | (go_at_call 108; ((with_reducible refine (HW.out _).mono ?_)); rintro e' w2 ⟨rfl, hb⟩; have n0 := Aside0.mk (blk_below (blk_drew BK.out) hb); have m0 := Aside0.mk (blk_below (blk_drew BR.out) hb); have n1 := Aside0.mk (below_step (below_drew1 HB.out) hb); clear hb; obtain ⟨d0, d1, d2, d3, d4, d5⟩ := c6 n0.out; obtain ⟨y0, y1, y2, y3, y4, y5⟩ := c6 m0.out; have fy := fun i => blk_frozen m0.out i))
  rename_i hHeld
  clear hHeld
  go_wp2
  obtain ⟨q1, q2⟩ := put6 m0.out n1.out (Nat.le_succ _) (.int .i64 k') (.bool o') (.int .u8 l') (.int .u8 h') (.int .u8 r') (.bool md')
  generalize ((((((w2.setCell ⟨w.heap.size + 1, 0, none⟩ (.int .i64 k')).setCell ⟨w.heap.size + 1, 1, none⟩ (.bool o')).setCell ⟨w.heap.size + 1, 2, none⟩ (.int .u8 l')).setCell ⟨w.heap.size + 1, 3, none⟩ (.int .u8 h')).setCell ⟨w.heap.size + 1, 4, none⟩ (.int .u8 r')).setCell ⟨w.heap.size + 1, 5, none⟩ (.bool md')) = Y at q1 q2 ⊢
  obtain ⟨u0, u1, u2, u3, u4, u5⟩ := c6 q1
  exact bodyPost_ret (v := .agg #[.int .i64 k', .bool o', .int .u8 l', .int .u8 h', .int .u8 r', .bool md']) (by simp [results, Try.results41, go_sem, u0, u1, u2, u3, u4, u5]) rfl ⟨rfl, q2⟩
theorem wr_plain (k : Int) (o : Bool) (l h r : Int) (md : Bool) (a v k' : Int) (o' : Bool) (l' h' r' : Int) (md' : Bool) (h1 : ¬ k = 1) (h3 : ¬ k = 3) (h5 : ¬ k = 5) (ha : ¬ a ≥ 32768) (hw : ∀ W : World, Calls Try.prog 112 #[.agg #[], .agg #[.int .i64 k, .bool o, .int .u8 l, .int .u8 h, .int .u8 r, .bool md], .int .i64 (IntKind.i64.wrap (a / 4096)), .int .u8 v] W fun e w' => e = .returned (.agg #[.int .i64 k', .bool o', .int .u8 l', .int .u8 h', .int .u8 r', .bool md']) ∧ Below W.heap.size W w') (w : World) :
    Calls Try.prog 41 #[.agg #[.int .i64 k, .bool o, .int .u8 l, .int .u8 h, .int .u8 r, .bool md], .int .u16 a, .int .u8 v] w fun e' w' => e' = .returned (.agg #[.int .i64 k', .bool o', .int .u8 l', .int .u8 h', .int .u8 r', .bool md']) ∧ Below w.heap.size w w' := by
  have HW := Aside0.mk hw
  clear hw
  go_enter Try.func41, Try.ntmps41
  go_wp2
  have bk := blk_alloc (blk_new w (.cells #[.int .i64 k, .bool o, .int .u8 l, .int .u8 h, .int .u8 r, .bool md] 32)) (.cells #[.int .i64 0, .bool false, .int .u8 0, .int .u8 0, .int .u8 0, .bool false] 32)
  have br := blk_at1 w (.cells #[.int .i64 k, .bool o, .int .u8 l, .int .u8 h, .int .u8 r, .bool md] 32) (.cells #[.int .i64 0, .bool false, .int .u8 0, .int .u8 0, .int .u8 0, .bool false] 32)
  have hB := below_alloc (below_alloc (Below.refl w.heap.size w) (.cells #[.int .i64 k, .bool o, .int .u8 l, .int .u8 h, .int .u8 r, .bool md] 32)) (.cells #[.int .i64 0, .bool false, .int .u8 0, .int .u8 0, .int .u8 0, .bool false] 32)
  generalize (w.alloc (.cells #[.int .i64 k, .bool o, .int .u8 l, .int .u8 h, .int .u8 r, .bool md] 32)).alloc (.cells #[.int .i64 0, .bool false, .int .u8 0, .int .u8 0, .int .u8 0, .bool false] 32) = W at bk br hB ⊢
  have BK := Aside0.mk bk
  have BR := Aside0.mk br
  have HB := Aside0.mk hB
  clear bk br hB
  obtain ⟨c0, c1, c2, c3, c4, c5⟩ := c6 BK.out
  obtain ⟨z0, z1, z2, z3, z4, z5⟩ := c6 BR.out
  have fr := fun i => blk_frozen BR.out i
  go_region_held3 (fun w' => w'.cell? ⟨w.heap.size, 0, none⟩ = some (.int .i64 k) ∧ w'.cell? ⟨w.heap.size, 1, none⟩ = some (.bool o) ∧ w'.cell? ⟨w.heap.size, 2, none⟩ = some (.int .u8 l) ∧ w'.cell? ⟨w.heap.size, 3, none⟩ = some (.int .u8 h) ∧ w'.cell? ⟨w.heap.size, 4, none⟩ = some (.int .u8 r) ∧ w'.cell? ⟨w.heap.size, 5, none⟩ = some (.bool md)) (go_keep)
    (first | (go_at_call 68; ((with_reducible refine (of0 k h1 h3 h5 _).mono ?_)); rintro e' w2 ⟨rfl, rfl⟩)
           | (go_at_call 112; ((with_reducible refine (HW.out _).mono ?_)); rintro e' w2 ⟨rfl, hb⟩; have n0 := Aside0.mk (blk_below (blk_drew BK.out) hb); have m0 := Aside0.mk (blk_below (blk_drew BR.out) hb); have n1 := Aside0.mk (below_step (below_drew1 HB.out) hb); clear hb; obtain ⟨d0, d1, d2, d3, d4, d5⟩ := c6 n0.out; obtain ⟨y0, y1, y2, y3, y4, y5⟩ := c6 m0.out; have fy := fun i => blk_frozen m0.out i))
  rename_i hHeld
  clear hHeld
  go_wp2
  obtain ⟨q1, q2⟩ := put6 m0.out n1.out (Nat.le_succ _) (.int .i64 k') (.bool o') (.int .u8 l') (.int .u8 h') (.int .u8 r') (.bool md')
  generalize ((((((w2.setCell ⟨w.heap.size + 1, 0, none⟩ (.int .i64 k')).setCell ⟨w.heap.size + 1, 1, none⟩ (.bool o')).setCell ⟨w.heap.size + 1, 2, none⟩ (.int .u8 l')).setCell ⟨w.heap.size + 1, 3, none⟩ (.int .u8 h')).setCell ⟨w.heap.size + 1, 4, none⟩ (.int .u8 r')).setCell ⟨w.heap.size + 1, 5, none⟩ (.bool md')) = Y at q1 q2 ⊢
  obtain ⟨u0, u1, u2, u3, u4, u5⟩ := c6 q1
  exact bodyPost_ret (v := .agg #[.int .i64 k', .bool o', .int .u8 l', .int .u8 h', .int .u8 r', .bool md']) (by simp [results, Try.results41, go_sem, u0, u1, u2, u3, u4, u5]) rfl ⟨rfl, q2⟩
theorem wr_far (k : Int) (o : Bool) (l h r : Int) (md : Bool) (a v : Int) (ha : a ≥ 32768) (w : World) :
  Calls Try.prog 41 #[.agg #[.int .i64 k, .bool o, .int .u8 l, .int .u8 h, .int .u8 r, .bool md], .int .u16 a, .int .u8 v] w fun e' w' => e' = .returned (.agg #[.int .i64 k, .bool o, .int .u8 l, .int .u8 h, .int .u8 r, .bool md]) ∧ Below w.heap.size w w' := by
 go_enter Try.func41, Try.ntmps41
 go_wp2
 go_returns
 exact ⟨rfl, by go_grown⟩
def writeF (k : Int) (o : Bool) (l h r : Int) (md : Bool) (a v : Int) : Int × Bool × Int × Int × Int × Bool :=
 if a ≥ 32768 then (k, o, l, h, r, md) else
 if k = 1 then (if wrap64 (Int.tdiv (IntKind.i64.wrap (a / 4096)) 2) = 0 then (k, ((Go.bits .and .u8 v 15) == 10), l, h, r, md) else if wrap64 (Int.tdiv (IntKind.i64.wrap (a / 4096)) 2) = 1 then (k, o, (Go.bits .and .u8 v 31), h, r, md) else if wrap64 (Int.tdiv (IntKind.i64.wrap (a / 4096)) 2) = 2 then (k, o, l, (Go.bits .and .u8 v 3), r, md) else if wrap64 (Int.tdiv (IntKind.i64.wrap (a / 4096)) 2) = 3 then (k, o, l, h, r, ((Go.bits .and .u8 v 1) == 1)) else (k, o, l, h, r, md)) else
 if k = 3 then (if wrap64 (Int.tdiv (IntKind.i64.wrap (a / 4096)) 2) = 0 then (k, ((Go.bits .and .u8 v 15) == 10), l, h, r, md) else if wrap64 (Int.tdiv (IntKind.i64.wrap (a / 4096)) 2) = 1 then (k, o, (Go.bits .and .u8 v 127), h, r, md) else if wrap64 (Int.tdiv (IntKind.i64.wrap (a / 4096)) 2) = 2 then (k, o, l, h, (Go.bits .and .u8 v 15), md) else (k, o, l, h, r, md)) else
 if k = 5 then (if IntKind.i64.wrap (a / 4096) = 0 then (k, (v == 10), l, h, r, md) else if IntKind.i64.wrap (a / 4096) = 1 then (k, (v == 10), l, h, r, md) else if IntKind.i64.wrap (a / 4096) = 2 then (k, o, v, h, r, md) else if IntKind.i64.wrap (a / 4096) = 3 then (k, o, l, (Go.bits .and .u8 v 1), r, md) else if IntKind.i64.wrap (a / 4096) = 4 then (k, o, l, h, (Go.bits .and .u8 v 15), md) else if IntKind.i64.wrap (a / 4096) = 5 then (k, o, l, h, (Go.bits .and .u8 v 15), md) else (k, o, l, h, r, md)) else
 (k, o, l, h, r, md)
def mapper_Write.f (a0_0 : Int) (a0_1 : Bool) (a0_2 a0_3 a0_4 : Int) (a0_5 : Bool) (a1 a2 : Int) : Option (Int × Bool × Int × Int × Int × Bool) := some (writeF a0_0 a0_1 a0_2 a0_3 a0_4 a0_5 a1 a2)
theorem mapper_Write.calls (a0_0 : Int) (a0_1 : Bool) (a0_2 a0_3 a0_4 : Int) (a0_5 : Bool) (a1 a2 : Int) (r1 : Int) (r2 : Bool) (r3 r4 r5 : Int) (r6 : Bool) (w : World) (hf : mapper_Write.f a0_0 a0_1 a0_2 a0_3 a0_4 a0_5 a1 a2 = some (r1, r2, r3, r4, r5, r6)) :
  Calls Try.prog 41 #[.agg #[.int .i64 a0_0, .bool a0_1, .int .u8 a0_2, .int .u8 a0_3, .int .u8 a0_4, .bool a0_5], .int .u16 a1, .int .u8 a2] w fun e w' => e = .returned (.agg #[.int .i64 r1, .bool r2, .int .u8 r3, .int .u8 r4, .int .u8 r5, .bool r6]) ∧ Below w.heap.size w w' := by
 replace hf := Option.some.inj hf
 unfold writeF at hf
 by_cases hA : a1 ≥ 32768
 ·rw [if_pos hA] at hf
  cases hf
  exact wr_far _ _ _ _ _ _ _ _ hA w
 rw [if_neg hA] at hf
 by_cases k1 : a0_0 = 1
 ·subst k1
  rw [if_pos rfl] at hf
  by_cases h0 : wrap64 (Int.tdiv (IntKind.i64.wrap (a1 / 4096)) 2) = 0
  ·rw [if_pos h0] at hf
   cases hf
   exact wr_first 0 _ _ _ _ _ _ _ _ _ _ _ _ _ hA (fun W => write_first0 1 _ _ _ _ _ _ _ h0 W) w
  rw [if_neg h0] at hf
  by_cases h1 : wrap64 (Int.tdiv (IntKind.i64.wrap (a1 / 4096)) 2) = 1
  ·rw [if_pos h1] at hf
   cases hf
   exact wr_first 0 _ _ _ _ _ _ _ _ _ _ _ _ _ hA (fun W => write_first1 1 _ _ _ _ _ _ _ h1 W) w
  rw [if_neg h1] at hf
  by_cases h2 : wrap64 (Int.tdiv (IntKind.i64.wrap (a1 / 4096)) 2) = 2
  ·rw [if_pos h2] at hf
   cases hf
   exact wr_first 0 _ _ _ _ _ _ _ _ _ _ _ _ _ hA (fun W => write_first2 1 _ _ _ _ _ _ _ h2 W) w
  rw [if_neg h2] at hf
  by_cases h3 : wrap64 (Int.tdiv (IntKind.i64.wrap (a1 / 4096)) 2) = 3
  ·rw [if_pos h3] at hf
   cases hf
   exact wr_first 0 _ _ _ _ _ _ _ _ _ _ _ _ _ hA (fun W => write_first3 1 _ _ _ _ _ _ _ h3 W) w
  rw [if_neg h3] at hf
  cases hf
  exact wr_first 0 _ _ _ _ _ _ _ _ _ _ _ _ _ hA (fun W => write_first_no 1 _ _ _ _ _ _ _ h0 h1 h2 h3 W) w
 rw [if_neg k1] at hf
 by_cases k3 : a0_0 = 3
 ·subst k3
  rw [if_pos rfl] at hf
  by_cases h0 : wrap64 (Int.tdiv (IntKind.i64.wrap (a1 / 4096)) 2) = 0
  ·rw [if_pos h0] at hf
   cases hf
   exact wr_third 0 _ _ _ _ _ _ _ _ _ _ _ _ _ hA (fun W => write_third0 3 _ _ _ _ _ _ _ h0 W) w
  rw [if_neg h0] at hf
  by_cases h1 : wrap64 (Int.tdiv (IntKind.i64.wrap (a1 / 4096)) 2) = 1
  ·rw [if_pos h1] at hf
   cases hf
   exact wr_third 0 _ _ _ _ _ _ _ _ _ _ _ _ _ hA (fun W => write_third1 3 _ _ _ _ _ _ _ h1 W) w
  rw [if_neg h1] at hf
  by_cases h2 : wrap64 (Int.tdiv (IntKind.i64.wrap (a1 / 4096)) 2) = 2
  ·rw [if_pos h2] at hf
   cases hf
   exact wr_third 0 _ _ _ _ _ _ _ _ _ _ _ _ _ hA (fun W => write_third2 3 _ _ _ _ _ _ _ h2 W) w
  rw [if_neg h2] at hf
  cases hf
  exact wr_third 0 _ _ _ _ _ _ _ _ _ _ _ _ _ hA (fun W => write_third_no 3 _ _ _ _ _ _ _ h0 h1 h2 W) w
 rw [if_neg k3] at hf
 by_cases k5 : a0_0 = 5
 ·subst k5
  rw [if_pos rfl] at hf
  by_cases h0 : IntKind.i64.wrap (a1 / 4096) = 0
  ·rw [if_pos h0] at hf
   cases hf
   exact wr_fifth 0 _ _ _ _ _ _ _ _ _ _ _ _ _ hA (fun W => write_fifth0 5 _ _ _ _ _ _ _ h0 W) w
  rw [if_neg h0] at hf
  by_cases h1 : IntKind.i64.wrap (a1 / 4096) = 1
  ·rw [if_pos h1] at hf
   cases hf
   exact wr_fifth 0 _ _ _ _ _ _ _ _ _ _ _ _ _ hA (fun W => write_fifth1 5 _ _ _ _ _ _ _ h1 W) w
  rw [if_neg h1] at hf
  by_cases h2 : IntKind.i64.wrap (a1 / 4096) = 2
  ·rw [if_pos h2] at hf
   cases hf
   exact wr_fifth 0 _ _ _ _ _ _ _ _ _ _ _ _ _ hA (fun W => write_fifth2 5 _ _ _ _ _ _ _ h2 W) w
  rw [if_neg h2] at hf
  by_cases h3 : IntKind.i64.wrap (a1 / 4096) = 3
  ·rw [if_pos h3] at hf
   cases hf
   exact wr_fifth 0 _ _ _ _ _ _ _ _ _ _ _ _ _ hA (fun W => write_fifth3 5 _ _ _ _ _ _ _ h3 W) w
  rw [if_neg h3] at hf
  by_cases h4 : IntKind.i64.wrap (a1 / 4096) = 4
  ·rw [if_pos h4] at hf
   cases hf
   exact wr_fifth 0 _ _ _ _ _ _ _ _ _ _ _ _ _ hA (fun W => write_fifth4 5 _ _ _ _ _ _ _ h4 W) w
  rw [if_neg h4] at hf
  by_cases h5 : IntKind.i64.wrap (a1 / 4096) = 5
  ·rw [if_pos h5] at hf
   cases hf
   exact wr_fifth 0 _ _ _ _ _ _ _ _ _ _ _ _ _ hA (fun W => write_fifth5 5 _ _ _ _ _ _ _ h5 W) w
  rw [if_neg h5] at hf
  cases hf
  exact wr_fifth 0 _ _ _ _ _ _ _ _ _ _ _ _ _ hA (fun W => write_fifth_no 5 _ _ _ _ _ _ _ h0 h1 h2 h3 h4 h5 W) w
 rw [if_neg k5] at hf
 cases hf
 exact wr_plain _ _ _ _ _ _ _ _ _ _ _ _ _ _ k1 k3 k5 hA (fun W => write_plain _ _ _ _ _ _ _ _ W) w
end Go.Proofs.Ytmjjojbedllmgaa.Hand
end
section
namespace Go.Proofs.Ytmjjojbedllmgaa.Hand
open Go.RowKit
open Go.Proofs.Ytmjjojbedllmgaa.G
open Go.Proofs.YtmjjojbedllmgaaW.PrintWords Go.Proofs.YtmjjojbedllmgaaW.PrintLast Go.Proofs.YtmjjojbedllmgaaW.PrintMore
def Mp.write (m : Mp) (ad v : Int) : Mp := match writeF m.k m.o m.l m.h m.r m.md ad v with | (k, o, l, h, r, md) => ⟨k, o, l, h, r, md⟩
theorem Mp.write_eq (m : Mp) (ad v : Int) : mapper_Write.f m.k m.o m.l m.h m.r m.md ad v = some ((m.write ad v).k, (m.write ad v).o, (m.write ad v).l, (m.write ad v).h, (m.write ad v).r, (m.write ad v).md) := rfl
def Ck.write (c : Ck) (n v : Int) : Ck := match (clock_Write.f c.s c.m c.h c.d c.ht c.cy n v).getD (0, 0, 0, 0, false, false, 0) with | (s, m, h, d, ht, cy, _) => ⟨s, m, h, d, ht, cy⟩
def Ck.writeE (c : Ck) (n v : Int) : Int := ((clock_Write.f c.s c.m c.h c.d c.ht c.cy n v).getD (0, 0, 0, 0, false, false, 0)).2.2.2.2.2.2
theorem clock_write_some (a b c d : Int) (e f : Bool) (n v : Int) : ∃ x, clock_Write.f a b c d e f n v = some x := by
 unfold clock_Write.f clock_Norm.f
 simp only [Option.bind_some]
 repeat' split
 all_goals exact ⟨_, rfl⟩
theorem Ck.write_eq (c : Ck) (n v : Int) : clock_Write.f c.s c.m c.h c.d c.ht c.cy n v = some ((c.write n v).s, (c.write n v).m, (c.write n v).h, (c.write n v).d, (c.write n v).ht, (c.write n v).cy, c.writeE n v) := by
 obtain ⟨x, hx⟩ := clock_write_some c.s c.m c.h c.d c.ht c.cy n v
 unfold Ck.write Ck.writeE
 rw [hx]
 rfl
def Ct.write (s : Ct) (ad v : Int) : Ct :=
 if ad < 32768 then
  if s.hdr.ck = true ∧ ad ≥ 24576 then Ct.latch { s with mp := s.mp.write ad v } v else { s with mp := s.mp.write ad v }
 else if (s.reg ad).getD 0 > 0 then { s with lv := s.lv.write ((s.reg ad).getD 0) v }
 else if s.at ad ≥ 0 then { s with ram := s.ram.set (s.at ad).toNat v } else s
theorem write_lo {w : World} {a : Ad} {s : Ct} (h : CartAt w a s) (ad v : Int) (hlo : ad < 32768) (hck : s.hdr.ck = false) :
  Calls Try.prog 18 #[a.p, .int .u16 ad, .int .u8 v] w fun e w' => e = .returned (.tuple #[]) ∧ CartAt w' a { s with mp := s.mp.write ad v } ∧ Upto a.S w w' := by
 have HH := Aside0.mk h
 clear h
 go_enter Try.func18, Try.ntmps18
 go_wp2_with fail
 refine (none_at HH.out).mono ?_
 rintro e' w1 ⟨rfl, hw⟩
 replace hw := hw.symm
 subst hw
 have c0 := HH.out.c0
 have c1 := HH.out.c1
 have c2 := HH.out.c2
 have c3 := HH.out.c3
 have c4 := HH.out.c4
 have c5 := HH.out.c5
 go_wp2_with fail
 refine (mapper_Write.calls _ _ _ _ _ _ _ _ _ _ _ _ _ _ _ (s.mp.write_eq ad v)).mono ?_
 rintro e' w1 ⟨rfl, hb⟩
 have h1 := HH.out.below hb
 have d0 := h1.c0
 have d1 := h1.c1
 have d2 := h1.c2
 have d3 := h1.c3
 have d4 := h1.c4
 have d5 := h1.c5
 have d24 := h1.c24
 rw [hck] at d24
 have fz := h1.frozen
 have H1 := Aside0.mk h1
 have HB := Aside0.mk hb
 clear h1 hb c0 c1 c2 c3 c4 c5
 go_wp2
 go_returns
 refine ⟨rfl, HH.out.stored (by
  have p := (blk_setL (blk_setL (blk_setL (blk_setL (blk_setL (blk_setL H1.out.box 0 (.int .i64 (s.mp.write ad v).k)) 1 (.bool (s.mp.write ad v).o)) 2 (.int .u8 (s.mp.write ad v).l)) 3 (.int .u8 (s.mp.write ad v).h)) 4 (.int .u8 (s.mp.write ad v).r)) 5 (.bool (s.mp.write ad v).md))
  rw [cells_mp] at p
  exact p) ?_ rfl rfl⟩
 with_reducible (refine Upto.setB ?_ _ _; refine Upto.setB ?_ _ _; refine Upto.setB ?_ _ _; refine Upto.setB ?_ _ _; refine Upto.setB ?_ _ _; refine Upto.setB ?_ _ _; exact Upto.of_below HB.out)
theorem write_lo2 {w : World} {a : Ad} {s : Ct} (h : CartAt w a s) (ad v : Int) (hlo : ad < 32768) (hck : s.hdr.ck = true) (ha : ¬ ad ≥ 24576) :
  Calls Try.prog 18 #[a.p, .int .u16 ad, .int .u8 v] w fun e w' => e = .returned (.tuple #[]) ∧ CartAt w' a { s with mp := s.mp.write ad v } ∧ Upto a.S w w' := by
 have HH := Aside0.mk h
 clear h
 go_enter Try.func18, Try.ntmps18
 go_wp2_with fail
 refine (none_at HH.out).mono ?_
 rintro e' w1 ⟨rfl, hw⟩
 replace hw := hw.symm
 subst hw
 have c0 := HH.out.c0
 have c1 := HH.out.c1
 have c2 := HH.out.c2
 have c3 := HH.out.c3
 have c4 := HH.out.c4
 have c5 := HH.out.c5
 go_wp2_with fail
 refine (mapper_Write.calls _ _ _ _ _ _ _ _ _ _ _ _ _ _ _ (s.mp.write_eq ad v)).mono ?_
 rintro e' w1 ⟨rfl, hb⟩
 have h1 := HH.out.below hb
 have d0 := h1.c0
 have d1 := h1.c1
 have d2 := h1.c2
 have d3 := h1.c3
 have d4 := h1.c4
 have d5 := h1.c5
 have d24 := h1.c24
 rw [hck] at d24
 have fz := h1.frozen
 have H1 := Aside0.mk h1
 have HB := Aside0.mk hb
 clear h1 hb c0 c1 c2 c3 c4 c5
 go_wp2
 go_returns
 refine ⟨rfl, HH.out.stored (by
  have p := (blk_setL (blk_setL (blk_setL (blk_setL (blk_setL (blk_setL H1.out.box 0 (.int .i64 (s.mp.write ad v).k)) 1 (.bool (s.mp.write ad v).o)) 2 (.int .u8 (s.mp.write ad v).l)) 3 (.int .u8 (s.mp.write ad v).h)) 4 (.int .u8 (s.mp.write ad v).r)) 5 (.bool (s.mp.write ad v).md))
  rw [cells_mp] at p
  exact p) ?_ rfl rfl⟩
 with_reducible (refine Upto.setB ?_ _ _; refine Upto.setB ?_ _ _; refine Upto.setB ?_ _ _; refine Upto.setB ?_ _ _; refine Upto.setB ?_ _ _; refine Upto.setB ?_ _ _; exact Upto.of_below HB.out)
theorem write_latch {w : World} {a : Ad} {s : Ct} (h : CartAt w a s) (ad v : Int) (hlo : ad < 32768) (hck : s.hdr.ck = true) (ha : ad ≥ 24576) :
  Calls Try.prog 18 #[a.p, .int .u16 ad, .int .u8 v] w fun e w' => e = .returned (.tuple #[]) ∧ CartAt w' a (Ct.latch { s with mp := s.mp.write ad v } v) ∧ Upto a.S w w' := by
 have HH := Aside0.mk h
 clear h
 go_enter Try.func18, Try.ntmps18
 go_wp2_with fail
 refine (none_at HH.out).mono ?_
 rintro e' w1 ⟨rfl, hw⟩
 replace hw := hw.symm
 subst hw
 have c0 := HH.out.c0
 have c1 := HH.out.c1
 have c2 := HH.out.c2
 have c3 := HH.out.c3
 have c4 := HH.out.c4
 have c5 := HH.out.c5
 go_wp2_with fail
 refine (mapper_Write.calls _ _ _ _ _ _ _ _ _ _ _ _ _ _ _ (s.mp.write_eq ad v)).mono ?_
 rintro e' w1 ⟨rfl, hb⟩
 have h1 := HH.out.below hb
 have d0 := h1.c0
 have d1 := h1.c1
 have d2 := h1.c2
 have d3 := h1.c3
 have d4 := h1.c4
 have d5 := h1.c5
 have d24 := h1.c24
 rw [hck] at d24
 have fz := h1.frozen
 have H1 := Aside0.mk h1
 have HB := Aside0.mk hb
 clear h1 hb c0 c1 c2 c3 c4 c5
 go_wp2_with fail
 have hs := HH.out.stored (W := ((((((w1.setCell ⟨a.b, 0, none⟩ (.int .i64 (s.mp.write ad v).k)).setCell ⟨a.b, 1, none⟩ (.bool (s.mp.write ad v).o)).setCell ⟨a.b, 2, none⟩ (.int .u8 (s.mp.write ad v).l)).setCell ⟨a.b, 3, none⟩ (.int .u8 (s.mp.write ad v).h)).setCell ⟨a.b, 4, none⟩ (.int .u8 (s.mp.write ad v).r)).setCell ⟨a.b, 5, none⟩ (.bool (s.mp.write ad v).md))) (s' := { s with mp := s.mp.write ad v }) (by
  have p := (blk_setL (blk_setL (blk_setL (blk_setL (blk_setL (blk_setL H1.out.box 0 (.int .i64 (s.mp.write ad v).k)) 1 (.bool (s.mp.write ad v).o)) 2 (.int .u8 (s.mp.write ad v).l)) 3 (.int .u8 (s.mp.write ad v).h)) 4 (.int .u8 (s.mp.write ad v).r)) 5 (.bool (s.mp.write ad v).md))
  rw [cells_mp] at p
  exact p) (by with_reducible (refine Upto.setB ?_ _ _; refine Upto.setB ?_ _ _; refine Upto.setB ?_ _ _; refine Upto.setB ?_ _ _; refine Upto.setB ?_ _ _; refine Upto.setB ?_ _ _; exact Upto.of_below HB.out)) rfl rfl
 have HS := Aside0.mk hs
 clear hs
 refine (latch_at HS.out.1 v).mono ?_
 rintro e' w2 ⟨rfl, h2, u2⟩
 have H2 := Aside0.mk h2
 have U2 := Aside0.mk u2
 clear h2 u2
 go_wp2
 go_returns
 exact ⟨rfl, H2.out, Upto.trans HS.out.2 U2.out⟩
theorem write_reg {w : World} {a : Ad} {s : Ct} (h : CartAt w a s) (ad v m : Int) (hlo : ¬ ad < 32768) (hg : s.reg ad = some m) (hm : m > 0) :
  Calls Try.prog 18 #[a.p, .int .u16 ad, .int .u8 v] w fun e w' => e = .returned (.tuple #[]) ∧ CartAt w' a { s with lv := s.lv.write m v } ∧ Upto a.S w w' := by
 have HH := Aside0.mk h
 clear h
 have HG := Aside0.mk hg
 clear hg
 go_enter Try.func18, Try.ntmps18
 go_wp2_with fail
 refine (none_at HH.out).mono ?_
 rintro e' w1 ⟨rfl, hw⟩
 replace hw := hw.symm
 subst hw
 go_wp2_with fail
 refine (reg_at HH.out ad m HG.out).mono ?_
 rintro e' w1 ⟨rfl, hb⟩
 have h1 := HH.out.below hb
 have H1 := Aside0.mk h1
 have HB := Aside0.mk hb
 clear h1 hb
 have c6 := H1.out.c6
 have c7 := H1.out.c7
 have c8 := H1.out.c8
 have c9 := H1.out.c9
 have c10 := H1.out.c10
 have c11 := H1.out.c11
 go_wp2_with fail
 refine (clock_Write.calls _ _ _ _ _ _ _ _ _ _ _ _ _ _ _ _ (s.lv.write_eq m v)).mono ?_
 rintro e' w2 ⟨rfl, hb⟩
 have h2 := H1.out.below hb
 have d6 := h2.c6
 have d7 := h2.c7
 have d8 := h2.c8
 have d9 := h2.c9
 have d10 := h2.c10
 have d11 := h2.c11
 have fz := h2.frozen
 have H2 := Aside0.mk h2
 have HB2 := Aside0.mk (below_step HB.out hb)
 clear h2 hb c6 c7 c8 c9 c10 c11
 go_wp2
 go_returns
 refine ⟨rfl, HH.out.stored ?_ ?_ rfl rfl⟩
 ·have p := (blk_setL (blk_setL (blk_setL (blk_setL (blk_setL (blk_setL H2.out.box 6 (.int .u8 (s.lv.write m v).s)) 7 (.int .u8 (s.lv.write m v).m)) 8 (.int .u8 (s.lv.write m v).h)) 9 (.int .u16 (s.lv.write m v).d)) 10 (.bool (s.lv.write m v).ht)) 11 (.bool (s.lv.write m v).cy))
  rw [cells_lv] at p
  exact p
 ·with_reducible (refine Upto.setB ?_ _ _; refine Upto.setB ?_ _ _; refine Upto.setB ?_ _ _; refine Upto.setB ?_ _ _; refine Upto.setB ?_ _ _; refine Upto.setB ?_ _ _; exact Upto.of_below HB2.out)
theorem write_ram {w : World} {a : Ad} {s : Ct} (h : CartAt w a s) (ad v m : Int) (hlo : ¬ ad < 32768) (hg : s.reg ad = some m) (hm : ¬ m > 0) (n : Int) (hat : s.at ad = n) (h0 : n ≥ 0) (hn : n < s.ram.length) :
  Calls Try.prog 18 #[a.p, .int .u16 ad, .int .u8 v] w fun e w' => e = .returned (.tuple #[]) ∧ CartAt w' a { s with ram := s.ram.set n.toNat v } ∧ Upto a.S w w' := by
 have HH := Aside0.mk h
 clear h
 have HG := Aside0.mk hg
 clear hg
 have HA : Aside0 (mapper_Ram.f s.mp.k s.mp.o s.mp.l s.mp.h s.mp.r s.mp.md ad s.ram.length = some n) := Aside0.mk ((at_eq s ad).trans (congrArg some hat))
 clear hat
 go_enter Try.func18, Try.ntmps18
 go_wp2_with fail
 refine (none_at HH.out).mono ?_
 rintro e' w1 ⟨rfl, hw⟩
 replace hw := hw.symm
 subst hw
 go_wp2_with fail
 refine (reg_at HH.out ad m HG.out).mono ?_
 rintro e' w1 ⟨rfl, hb⟩
 have h1 := HH.out.below hb
 have H1 := Aside0.mk h1
 have HB := Aside0.mk hb
 clear h1 hb
 have c0 := H1.out.c0
 have c1 := H1.out.c1
 have c2 := H1.out.c2
 have c3 := H1.out.c3
 have c4 := H1.out.c4
 have c5 := H1.out.c5
 have c30 := H1.out.c30
 go_wp2_with fail
 go_region_with ((go_at_call 36; ((with_reducible refine (mapper_Ram.calls _ _ _ _ _ _ _ _ _ _ HA.out).mono ?_)); rintro e' w3 ⟨rfl, hb⟩; have HB3 : Aside0 (Below w.heap.size w w3) := Aside0.mk (below_step HB.out (Below.trans (below_drew1 (Below.refl _ _)) hb)); have H3 : Aside0 (CartAt w3 a s) := Aside0.mk (H1.out.below (Below.trans (below_drew1 (Below.refl _ _)) hb)); clear hb))
 all_goals (
  have g30 := H3.out.c30
  have hcell := H3.out.row.cell n.toNat (by omega)
  have hx : ((n.toNat : Nat) : Int) = n := by omega
  rw [hx] at hcell
  have hfz := H3.out.row.frozen n.toNat
  clear hx c0 c1 c2 c3 c4 c5 c30
  go_wp2
  go_returns
  refine ⟨rfl, ⟨?_, ?_, ?_, HH.out.n1, HH.out.n2, HH.out.n3⟩, Upto.set (p := ⟨a.gr, n.toNat, none⟩) (Upto.of_below HB3.out) (Or.inr rfl) _⟩
  ·have p := blk_far H3.out.box (p := ⟨a.gr, n.toNat, none⟩) HH.out.n1 (.int .u8 v)
   rw [show (Ct.cells { s with ram := s.ram.set n.toNat v } a) = s.cells a by simp [Ct.cells]]
   exact p
  ·exact H3.out.image.of_block (Below.heap_setCell _ _ _ _ HH.out.n2)
  ·exact H3.out.row.put n.toNat v)
theorem write_no {w : World} {a : Ad} {s : Ct} (h : CartAt w a s) (ad v m : Int) (hlo : ¬ ad < 32768) (hg : s.reg ad = some m) (hm : ¬ m > 0) (n : Int) (hat : s.at ad = n) (h0 : ¬ n ≥ 0) :
  Calls Try.prog 18 #[a.p, .int .u16 ad, .int .u8 v] w fun e w' => e = .returned (.tuple #[]) ∧ CartAt w' a s ∧ Upto a.S w w' := by
 have HH := Aside0.mk h
 clear h
 have HG := Aside0.mk hg
 clear hg
 have HA : Aside0 (mapper_Ram.f s.mp.k s.mp.o s.mp.l s.mp.h s.mp.r s.mp.md ad s.ram.length = some n) := Aside0.mk ((at_eq s ad).trans (congrArg some hat))
 clear hat
 go_enter Try.func18, Try.ntmps18
 go_wp2_with fail
 refine (none_at HH.out).mono ?_
 rintro e' w1 ⟨rfl, hw⟩
 replace hw := hw.symm
 subst hw
 go_wp2_with fail
 refine (reg_at HH.out ad m HG.out).mono ?_
 rintro e' w1 ⟨rfl, hb⟩
 have h1 := HH.out.below hb
 have H1 := Aside0.mk h1
 have HB := Aside0.mk hb
 clear h1 hb
 have c0 := H1.out.c0
 have c1 := H1.out.c1
 have c2 := H1.out.c2
 have c3 := H1.out.c3
 have c4 := H1.out.c4
 have c5 := H1.out.c5
 have c30 := H1.out.c30
 go_wp2_with fail
 go_region_with ((go_at_call 36; ((with_reducible refine (mapper_Ram.calls _ _ _ _ _ _ _ _ _ _ HA.out).mono ?_)); rintro e' w3 ⟨rfl, hb⟩; have HB3 : Aside0 (Below w.heap.size w w3) := Aside0.mk (below_step HB.out (Below.trans (below_drew1 (Below.refl _ _)) hb)); have H3 : Aside0 (CartAt w3 a s) := Aside0.mk (H1.out.below (Below.trans (below_drew1 (Below.refl _ _)) hb)); clear hb))
 all_goals (
  go_wp2
  go_returns
  exact ⟨rfl, H3.out, Upto.of_below HB3.out⟩)
end Go.Proofs.Ytmjjojbedllmgaa.Hand
end
section
namespace Go.Proofs.Ytmjjojbedllmgaa.Hand
open Go.RowKit
open Go.Proofs.Ytmjjojbedllmgaa.G
open Go.Proofs.YtmjjojbedllmgaaW.PrintWords Go.Proofs.YtmjjojbedllmgaaW.PrintLast Go.Proofs.YtmjjojbedllmgaaW.PrintMore
theorem ram_at {w : World} {a : Ad} {s : Ct} (h : CartAt w a s) (hl : s.ram.length ≤ 1048576) :
  Calls Try.prog 15 #[a.p] w fun e w' => ∃ v0 : Value, e = .returned v0 ∧ Kd.R (Kd.int .u8) 5 w' w.heap.size (fun _ => True) v0 s.ram ∧ Below w.heap.size w w' := by
 have HH := Aside0.mk h
 have HL := Aside0.mk hl
 clear h hl
 go_enter Try.func15, Try.ntmps15
 go_wp2_with fail
 refine (none_at HH.out).mono ?_
 rintro e' w1 ⟨rfl, hw⟩
 replace hw := hw.symm
 subst hw
 go_wp2_with (first
  | ((with_reducible refine gate_dst (N := 5) rfl ?_); refine Kd.R_lit (Kd.int .u8) (w0 := w) w.heap.size 5 ?hg (N := 5) ?hd (xs := ([] : List Int)) (inner := []) (ok := fun _ => True) (okp := fun _ => True) ?hr ?hp (fun _ hk => hk) trivial (Below.refl _ _) (Nat.le_refl _) (by simp) ?_; (case hd => rfl); (case hg => rfl); (case hr => first | (go_simp; done) | (go_simp; rfl)); (case hp => exact (Reps.none _ _)); intro v5 w5 ho hb hg_ hnew_; clear hg_ hnew_; have HO := Aside0.mk ho; have HB := Aside0.mk hb; have c30 := (HH.out.below hb).c30; clear ho hb)
  | ((with_reducible refine gate_builtin (b := .append) (xs := #[.tmp 5, .tmp 9]) rfl ?_); at_builtin; refine Kd.R_append_rows (Kd.int .u8) (w0 := w) w.heap.size rfl (.tmp 5) (.tmp 9) 22 5 (.int .u8 0) 1 rfl Try.underlying22 info5 rfl (by decide) (by omega) v5 [] s.ram _ _ _ (fun _ => True) (fun _ => False) rfl rfl HO.out ?aR (fun _ _ h => h) (fun _ h => h.elim) (fun _ _ => trivial) HB.out (below_size HB.out) ?aL ?_; (case aR => exact (HH.out.below HB.out).row.head.reads (by have := HL.out; omega)); (case aL => have := HL.out; simp; omega); intro v6 w6 ho hb hg hat; have HO2 := Aside0.mk ho; have HB2 := Aside0.mk hb; clear ho hb hg hat))
 go_ret
 exact ⟨v6, rfl, HO2.out, HB2.out⟩
theorem ram_nil (w : World) :
  Calls Try.prog 15 #[.pointer none] w fun e w' => e = .returned (.slice none 0 0) ∧ Below w.heap.size w w' := by
 go_enter Try.func15, Try.ntmps15
 go_wp2
 go_ret
 exact ⟨rfl, Below.refl _ _⟩
end Go.Proofs.Ytmjjojbedllmgaa.Hand
end
section
namespace Go.Proofs.Ytmjjojbedllmgaa.Hand
end Go.Proofs.Ytmjjojbedllmgaa.Hand
end
section
namespace Go.Proofs.Ytmjjojbedllmgaa.Hand
open Go.RowKit
open Go.Proofs.Ytmjjojbedllmgaa.G
open Go.Proofs.YtmjjojbedllmgaaW.PrintWords Go.Proofs.YtmjjojbedllmgaaW.PrintLast Go.Proofs.YtmjjojbedllmgaaW.PrintMore
theorem tick_no {w : World} {a : Ad} {s : Ct} (h : CartAt w a s) (hck : s.hdr.ck = false) :
  Calls Try.prog 20 #[a.p] w fun e w' => e = .returned (.tuple #[]) ∧ Below w.heap.size w w' := by
 have c31 := h.c31
 have c24 := h.c24
 rw [hck] at c24
 clear h
 go_enter Try.func20, Try.ntmps20
 go_wp2
 go_returns
 exact ⟨rfl, by go_grown⟩
end Go.Proofs.Ytmjjojbedllmgaa.Hand
end
section
namespace Go.Proofs.Ytmjjojbedllmgaa.Hand
open Go.RowKit
open Go.Proofs.Ytmjjojbedllmgaa.G
open Go.Proofs.YtmjjojbedllmgaaW.PrintWords Go.Proofs.YtmjjojbedllmgaaW.PrintLast Go.Proofs.YtmjjojbedllmgaaW.PrintMore
structure Mp.Ok (m : Mp) : Prop where
 l0 : 0 ≤ m.l
 l1 : m.l ≤ 255
 h0 : 0 ≤ m.h
 h1 : m.h ≤ 255
 r0 : 0 ≤ m.r
 r1 : m.r ≤ 255
structure Ct.Ok (s : Ct) : Prop where
 i0 : 0 < s.img.length
 i1 : s.img.length ≤ 16777216
 r1 : s.ram.length ≤ 1048576
 m : s.mp.Ok
def Ct.romN (s : Ct) (ad : Int) : Int := (s.rom ad).getD (-1)
def Ct.regN (s : Ct) (ad : Int) : Int := (s.reg ad).getD 0
def Ck.read (c : Ck) (n : Int) : Int := ((clock_Read.f c.s c.m c.h c.d c.ht c.cy n).getD (0, 0)).1
theorem clock_read_some (a b c d : Int) (e f : Bool) (n : Int) : ∃ v x, clock_Read.f a b c d e f n = some (v, x) := by
 unfold clock_Read.f clock_Norm.f clock_bit.f
 simp only [Option.bind_some]
 repeat' (first | exact ⟨_, _, rfl⟩ | split)
 all_goals (simp only [Option.bind_some]; repeat' (first | exact ⟨_, _, rfl⟩ | split))
 all_goals (simp only [Option.bind_some]; repeat' (first | exact ⟨_, _, rfl⟩ | split))
theorem rom_lo {s : Ct} (ok : s.Ok) (ad : Int) (ha : 0 ≤ ad ∧ ad ≤ 65535) (hlo : ad < 32768) : s.rom ad = some (s.romN ad) ∧ 0 ≤ s.romN ad ∧ s.romN ad < s.img.length := by
 have q := Pure.rom_is s.mp.k s.mp.o s.mp.l s.mp.h s.mp.r s.mp.md ad s.img.length ⟨ok.m.l0, ok.m.l1⟩ ⟨ok.m.h0, ok.m.h1⟩ ha
 have hi := ok.i0
 rw [if_neg (by omega), if_neg (by omega)] at q
 have e : s.rom ad = some ((bankF s.mp.k s.mp.l s.mp.h s.mp.md (ad / 16384) * 16384 + ad % 16384) % s.img.length) := q
 have e2 : s.romN ad = (bankF s.mp.k s.mp.l s.mp.h s.mp.md (ad / 16384) * 16384 + ad % 16384) % s.img.length := by rw [Ct.romN, e]; rfl
 rw [e2]
 exact ⟨e, Int.emod_nonneg _ (by omega), Int.emod_lt_of_pos _ (by omega)⟩
theorem rom_hi {s : Ct} (ok : s.Ok) (ad : Int) (ha : 0 ≤ ad ∧ ad ≤ 65535) (hlo : ¬ ad < 32768) : s.rom ad = some (-1) := by
 have q := Pure.rom_is s.mp.k s.mp.o s.mp.l s.mp.h s.mp.r s.mp.md ad s.img.length ⟨ok.m.l0, ok.m.l1⟩ ⟨ok.m.h0, ok.m.h1⟩ ha
 have hi := ok.i0
 rw [if_neg (by omega), if_pos (by omega)] at q
 exact q
theorem reg_of {s : Ct} (ok : s.Ok) (ad : Int) : s.reg ad = some (s.regN ad) := by
 have h : ∃ z, s.reg ad = some z := by
  unfold Ct.reg
  split
  ·obtain ⟨z, hz, _⟩ := Pure.reg_bd s.mp.k s.mp.o s.mp.l s.mp.h s.mp.r s.mp.md ad ⟨ok.m.r0, ok.m.r1⟩
   exact ⟨z, hz⟩
  ·exact ⟨0, rfl⟩
 obtain ⟨z, hz⟩ := h
 rw [Ct.regN, hz]; rfl
theorem at_lt {s : Ct} (ok : s.Ok) (ad : Int) (ha : 0 ≤ ad ∧ ad ≤ 65535) (h0 : s.at ad ≥ 0) : s.at ad < s.ram.length := by
 obtain ⟨x, hx, _, h2⟩ := Pure.ram_bd s.mp.k s.mp.o s.mp.l s.mp.h s.mp.r s.mp.md ad s.ram.length ⟨ok.m.h0, ok.m.h1⟩ ⟨ok.m.r0, ok.m.r1⟩ ha
 rw [at_eq] at hx
 cases hx
 exact (h2 h0).1
def Ct.read (s : Ct) (ad : Int) : Int :=
 if ad < 32768 then rd s.img (s.romN ad)
 else if s.regN ad > 0 then s.hd.read (s.regN ad)
 else if s.at ad ≥ 0 then rd s.ram (s.at ad) else 255
theorem read_at {w : World} {a : Ad} {s : Ct} (h : CartAt w a s) (ok : s.Ok) (ad : Int) (ha : 0 ≤ ad ∧ ad ≤ 65535) :
  Calls Try.prog 13 #[a.p, .int .u16 ad] w fun e w' => e = .returned (.int .u8 (s.read ad)) ∧ Below w.heap.size w w' := by
 unfold Ct.read
 by_cases hlo : ad < 32768
 ·rw [if_pos hlo]
  obtain ⟨h1, h2, h3⟩ := rom_lo ok ad ha hlo
  exact read_rom h ad _ h1 h2 h3
 rw [if_neg hlo]
 have hr := rom_hi ok ad ha hlo
 have hg := reg_of ok ad
 by_cases hm : s.regN ad > 0
 ·rw [if_pos hm]
  obtain ⟨v, x, hv⟩ := clock_read_some s.hd.s s.hd.m s.hd.h s.hd.d s.hd.ht s.hd.cy (s.regN ad)
  have q := read_reg h ad _ v x hr hg hm hv
  have e : s.hd.read (s.regN ad) = v := by rw [Ck.read, hv]; rfl
  rw [e]
  exact q
 rw [if_neg hm]
 by_cases h0 : s.at ad ≥ 0
 ·rw [if_pos h0]
  exact read_ram h ad _ _ hr hg hm rfl h0 (at_lt ok ad ha h0)
 ·rw [if_neg h0]
  exact read_no h ad _ _ hr hg hm rfl h0
theorem write_at {w : World} {a : Ad} {s : Ct} (h : CartAt w a s) (ok : s.Ok) (ad v : Int) (ha : 0 ≤ ad ∧ ad ≤ 65535) :
  Calls Try.prog 18 #[a.p, .int .u16 ad, .int .u8 v] w fun e w' => e = .returned (.tuple #[]) ∧ CartAt w' a (s.write ad v) ∧ Upto a.S w w' := by
 unfold Ct.write
 by_cases hlo : ad < 32768
 ·rw [if_pos hlo]
  cases hck : s.hdr.ck with
  | false =>
   rw [if_neg (fun q => by simp at q)]
   exact write_lo h ad v hlo hck
  | true =>
   by_cases hb : ad ≥ 24576
   ·rw [if_pos ⟨rfl, hb⟩]
    exact write_latch h ad v hlo hck hb
   ·rw [if_neg (fun q => hb q.2)]
    exact write_lo2 h ad v hlo hck hb
 rw [if_neg hlo]
 have hg := reg_of ok ad
 by_cases hm : (s.reg ad).getD 0 > 0
 ·rw [if_pos hm]
  exact write_reg h ad v _ hlo hg hm
 rw [if_neg hm]
 by_cases h0 : s.at ad ≥ 0
 ·rw [if_pos h0]
  exact write_ram h ad v _ hlo hg hm _ rfl h0 (at_lt ok ad ha h0)
 ·rw [if_neg h0]
  exact write_no h ad v _ hlo hg hm _ rfl h0
def Ct.tick (s : Ct) : Ct := if s.hdr.ck = true then { s with lv := s.lv.tick } else s
theorem tick_all {w : World} {a : Ad} {s : Ct} (h : CartAt w a s) :
  Calls Try.prog 20 #[a.p] w fun e w' => e = .returned (.tuple #[]) ∧ CartAt w' a s.tick ∧ Upto a.S w w' := by
 unfold Ct.tick
 cases hck : s.hdr.ck with
 | true =>
  rw [if_pos rfl]
  exact tick_at h hck
 | false =>
  rw [if_neg (by simp)]
  exact (tick_no h hck).mono fun e w' ⟨he, hb⟩ => ⟨he, h.below hb, Upto.of_below hb⟩
end Go.Proofs.Ytmjjojbedllmgaa.Hand
end
section
namespace Go.Proofs.Ytmjjojbedllmgaa.Hand
open Go.RowKit
open Go.Proofs.Ytmjjojbedllmgaa.G
open Go.Proofs.YtmjjojbedllmgaaW.PrintWords Go.Proofs.YtmjjojbedllmgaaW.PrintLast Go.Proofs.YtmjjojbedllmgaaW.PrintMore
def Bytes (l : List Int) : Prop := ∀ x ∈ l, 0 ≤ x ∧ x ≤ 255
theorem Bytes.bd {l : List Int} (h : Bytes l) (i : Int) : 0 ≤ rd l i ∧ rd l i ≤ 255 := by
 unfold rd
 rw [List.getD_eq_getElem?_getD]
 cases e : l[i.toNat]? with
 | none => simp
 | some x => exact h x (List.mem_of_getElem? e)
theorem ware_all : ∀ v : Fin 256, (wareT (v.val : Int)).1 = 0 ∨ (wareT (v.val : Int)).1 = 1 ∨ (wareT (v.val : Int)).1 = 3 ∨ (wareT (v.val : Int)).1 = 5 := by decide +kernel
theorem most_all10 : ∀ v : Fin 9, shl .i64 32768 (v.val : Int) ≤ 8388608 := by decide +kernel
def nilH : Hd := ⟨⟨#[]⟩, 0, 0, false, false, false, 0, 0, 0, 0⟩
def headOf (l : List Int) : Hd := match header_Parse.f l with | some (t, kd, mp, rm, bt, ck, bk, sz, sm, wh, _) => ⟨t, kd, mp, rm, bt, ck, bk, sz, sm, wh⟩ | none => nilH
def headE (l : List Int) : Int := match header_Parse.f l with | some (_, _, _, _, _, _, _, _, _, _, e) => e | none => 1
theorem head_is {l : List Int} (hb : Bytes l) : header_Parse.f l = some ((headOf l).t, (headOf l).kd, (headOf l).mp, (headOf l).rm, (headOf l).bt, (headOf l).ck, (headOf l).bk, (headOf l).sz, (headOf l).sm, (headOf l).wh, headE l) := by
 have h : ∃ r, header_Parse.f l = some r := by
  have b1 := hb.bd 327
  have b2 := hb.bd 328
  have b3 := hb.bd 329
  unfold header_Parse.f
  split
  ·rw [if_pos ⟨b1.1, b1.2, b2.1, b3.1⟩]
   repeat' (first | exact ⟨_, rfl⟩ | split)
  ·exact ⟨_, rfl⟩
 obtain ⟨⟨t, kd, mp, rm, bt, ck, bk, sz, sm, wh, e⟩, h⟩ := h
 unfold headOf headE
 rw [h]
theorem head_ok {l : List Int} (hb : Bytes l) (he : headE l = 0) :
  336 ≤ l.length ∧ l.length ≤ 8388608 ∧ mapper_New.f (headOf l).mp = some ((headOf l).mp, false, 0, 0, 0, false, 0) ∧ 0 ≤ (headOf l).sz ∧ (headOf l).sz ≤ 131072 := by
 have h := head_is hb
 rw [he] at h
 have b1 := hb.bd 327
 have b2 := hb.bd 328
 have b3 := hb.bd 329
 generalize headOf l = H at h ⊢
 unfold header_Parse.f at h
 split at h
 case isFalse => simp at h
 rename_i h336
 rw [if_pos ⟨b1.1, b1.2, b2.1, b3.1⟩] at h
 split at h
 case isFalse => simp at h
 split at h
 case isFalse => simp at h
 rename_i hsz
 split at h
 case isFalse => simp at h
 simp only [Option.some.injEq, Prod.mk.injEq] at h
 obtain ⟨-, -, hmp, -, -, -, -, hz, -, -, -⟩ := h
 have hw : H.mp = 0 ∨ H.mp = 1 ∨ H.mp = 3 ∨ H.mp = 5 := by
  obtain ⟨v, hv⟩ : ∃ v : Fin 256, rd l 327 = (v.val : Int) := ⟨⟨(rd l 327).toNat, by omega⟩, by show rd l 327 = ((rd l 327).toNat : Int); omega⟩
  have q := ware_all v
  rw [← hv, hmp] at q
  exact q
 have hm : shl .i64 32768 (rd l 328) ≤ 8388608 := by
  obtain ⟨v, hv⟩ : ∃ v : Fin 9, rd l 328 = (v.val : Int) := ⟨⟨(rd l 328).toNat, by omega⟩, by show rd l 328 = ((rd l 328).toNat : Int); omega⟩
  rw [hv]
  exact most_all10 v
 have hs : 0 ≤ H.sz ∧ H.sz ≤ 131072 := by
  rw [← hz]
  unfold ramT sizeT
  repeat' (first | omega | split)
 refine ⟨by omega, by omega, ?_, hs.1, hs.2⟩
 unfold mapper_New.f
 rcases hw with e | e | e | e <;> (rw [e]; rfl)
def newC (l : List Int) : Ct := Ct.new (headOf l) l
theorem newC_ok {l : List Int} (hb : Bytes l) (he : headE l = 0) : (newC l).Ok := by
 obtain ⟨h1, h2, h3, h4, h5⟩ := head_ok hb he
 refine ⟨?_, ?_, ?_, ⟨?_, ?_, ?_, ?_, ?_, ?_⟩⟩ <;> simp only [newC, Ct.new, List.length_replicate] <;> omega
theorem new_at (A : Option Addr) (c : Nat) (l : List Int) (w : World) (hr : Kd.C (Kd.int .u8) w A l.length l) (hc : l.length ≤ c) (hb : Bytes l) (he : headE l = 0) :
  Calls Try.prog 10 #[.slice A l.length c] w fun e' w' => ∃ a : Ad, e' = .returned (.tuple #[.pointer (some ⟨a.b, 0, none⟩), .int .i64 0]) ∧ CartAt w' a (newC l) ∧ w.heap.size ≤ a.b ∧ w.heap.size ≤ a.gi ∧ w.heap.size ≤ a.gr ∧ Below w.heap.size w w' := by
 have hp := head_is hb
 rw [he] at hp
 obtain ⟨h1, h2, h3, h4, h5⟩ := head_ok hb he
 exact new_ok A c l (headOf l) w hr hc hp h3 h4 (by omega) (by omega) (by omega)
theorem new_no (A : Option Addr) (c : Nat) (l : List Int) (w : World) (hr : Kd.C (Kd.int .u8) w A l.length l) (hc : l.length ≤ c) (hb : Bytes l) (he : ¬ headE l = 0) :
  Calls Try.prog 10 #[.slice A l.length c] w fun e' w' => e' = .returned (.tuple #[.pointer none, .int .i64 (headE l)]) ∧ Below w.heap.size w w' :=
 new_bad A c l _ _ _ _ _ _ _ _ _ _ _ w hr hc (head_is hb) he
theorem bits10 : ∀ v : Fin 256, (0 ≤ Go.bits .and .u8 (v.val : Int) 31 ∧ Go.bits .and .u8 (v.val : Int) 31 ≤ 255) ∧ (0 ≤ Go.bits .and .u8 (v.val : Int) 3 ∧ Go.bits .and .u8 (v.val : Int) 3 ≤ 255) ∧ (0 ≤ Go.bits .and .u8 (v.val : Int) 127 ∧ Go.bits .and .u8 (v.val : Int) 127 ≤ 255) ∧ (0 ≤ Go.bits .and .u8 (v.val : Int) 15 ∧ Go.bits .and .u8 (v.val : Int) 15 ≤ 255) ∧ (0 ≤ Go.bits .and .u8 (v.val : Int) 1 ∧ Go.bits .and .u8 (v.val : Int) 1 ≤ 255) := by decide +kernel
theorem writeF_bd (k : Int) (o : Bool) (l h r : Int) (md : Bool) (ad v : Int) (hl : 0 ≤ l ∧ l ≤ 255) (hh : 0 ≤ h ∧ h ≤ 255) (hr : 0 ≤ r ∧ r ≤ 255) (hv : 0 ≤ v ∧ v ≤ 255) :
  (0 ≤ (writeF k o l h r md ad v).2.2.1 ∧ (writeF k o l h r md ad v).2.2.1 ≤ 255) ∧ (0 ≤ (writeF k o l h r md ad v).2.2.2.1 ∧ (writeF k o l h r md ad v).2.2.2.1 ≤ 255) ∧ (0 ≤ (writeF k o l h r md ad v).2.2.2.2.1 ∧ (writeF k o l h r md ad v).2.2.2.2.1 ≤ 255) := by
 obtain ⟨u, rfl⟩ : ∃ u : Fin 256, v = (u.val : Int) := ⟨⟨v.toNat, by omega⟩, by show v = (v.toNat : Int); omega⟩
 obtain ⟨b1, b2, b3, b4, b5⟩ := bits10 u
 unfold writeF
 repeat' split
 all_goals (refine ⟨?_, ?_, ?_⟩ <;> first | exact hl | exact hh | exact hr | exact b1 | exact b2 | exact b3 | exact b4 | exact b5 | exact hv)
theorem Mp.Ok.write {m : Mp} (h : m.Ok) (ad v : Int) (hv : 0 ≤ v ∧ v ≤ 255) : (m.write ad v).Ok := by
 obtain ⟨⟨a1, a2⟩, ⟨b1, b2⟩, ⟨c1, c2⟩⟩ := writeF_bd m.k m.o m.l m.h m.r m.md ad v ⟨h.l0, h.l1⟩ ⟨h.h0, h.h1⟩ ⟨h.r0, h.r1⟩ hv
 exact ⟨a1, a2, b1, b2, c1, c2⟩
theorem latch_keeps (s : Ct) (v : Int) : (s.latch v).img = s.img ∧ (s.latch v).ram = s.ram ∧ (s.latch v).mp = s.mp ∧ (s.latch v).hdr = s.hdr := by
 unfold Ct.latch
 split <;> exact ⟨rfl, rfl, rfl, rfl⟩
theorem write_keeps (s : Ct) (ad v : Int) : (s.write ad v).img = s.img ∧ (s.write ad v).ram.length = s.ram.length ∧ (s.write ad v).hdr = s.hdr ∧ ((s.write ad v).mp = s.mp ∨ (s.write ad v).mp = s.mp.write ad v) := by
 unfold Ct.write
 split
 ·split
  ·obtain ⟨h1, h2, h3, h4⟩ := latch_keeps { s with mp := s.mp.write ad v } v
   exact ⟨h1, by rw [h2], h4, Or.inr h3⟩
  ·exact ⟨rfl, rfl, rfl, Or.inr rfl⟩
 ·split
  ·exact ⟨rfl, rfl, rfl, Or.inl rfl⟩
  ·split
   ·exact ⟨rfl, by simp, rfl, Or.inl rfl⟩
   ·exact ⟨rfl, rfl, rfl, Or.inl rfl⟩
theorem Ct.Ok.write {s : Ct} (h : s.Ok) (ad v : Int) (hv : 0 ≤ v ∧ v ≤ 255) : (s.write ad v).Ok := by
 obtain ⟨h1, h2, h3, h4⟩ := write_keeps s ad v
 refine ⟨by rw [h1]; exact h.i0, by rw [h1]; exact h.i1, by rw [h2]; exact h.r1, ?_⟩
 rcases h4 with e | e <;> rw [e]
 ·exact h.m
 ·exact h.m.write ad v hv
theorem tick_keeps (s : Ct) : s.tick.img = s.img ∧ s.tick.ram = s.ram ∧ s.tick.hdr = s.hdr ∧ s.tick.mp = s.mp ∧ s.tick.hd = s.hd := by
 unfold Ct.tick
 split <;> exact ⟨rfl, rfl, rfl, rfl, rfl⟩
theorem Ct.Ok.tick {s : Ct} (h : s.Ok) : s.tick.Ok := by
 obtain ⟨h1, h2, h3, h4, _⟩ := tick_keeps s
 exact ⟨by rw [h1]; exact h.i0, by rw [h1]; exact h.i1, by rw [h2]; exact h.r1, by rw [h4]; exact h.m⟩
theorem CartAt.other {w w' : World} {a d : Ad} {s : Ct} (h : CartAt w d s) (u : Upto a.S w w') (B : Nat) (h1 : a.b < B) (h2 : a.gr < B) (h3 : B ≤ d.b) (h4 : B ≤ d.gi) (h5 : B ≤ d.gr) : CartAt w' d s :=
 h.kept u (by rintro (q | q) <;> omega) (by rintro (q | q) <;> omega) (by rintro (q | q) <;> omega)
theorem CartAt.first {w w' : World} {a d : Ad} {s : Ct} (h : CartAt w a s) (u : Upto d.S w w') (B : Nat) (h1 : a.b < B) (h2 : a.gi < B) (h3 : a.gr < B) (h4 : B ≤ d.b) (h5 : B ≤ d.gr) : CartAt w' a s :=
 h.kept u (by rintro (q | q) <;> omega) (by rintro (q | q) <;> omega) (by rintro (q | q) <;> omega)
theorem upto_step {B : Nat} {w0 w w' : World} {a : Ad} (hb : Below B w0 w) (hB : B ≤ w0.heap.size) (u : Upto a.S w w') (h1 : B ≤ a.b) (h2 : B ≤ a.gr) : Below B w0 w' :=
 u.below hb (Nat.le_trans hB hb.size) (by rintro k (q | q) <;> omega)
end Go.Proofs.Ytmjjojbedllmgaa.Hand
end
section
namespace Go.Proofs.Ytmjjojbedllmgaa.Hand
end Go.Proofs.Ytmjjojbedllmgaa.Hand
end
section
namespace Go.Proofs.Ytmjjojbedllmgaa.Pure
open Go.RowKit Go.Proofs.Ytmjjojbedllmgaa.G Go.Proofs.Ytmjjojbedllmgaa.Hand
open Go.Proofs.YtmjjojbedllmgaaW.PrintWords Go.Proofs.YtmjjojbedllmgaaW.PrintLast Go.Proofs.YtmjjojbedllmgaaW.PrintMore
def ct (c : Ck) : C := (c.s, c.m, c.h, c.d, c.ht, c.cy)
structure Nm (s : Ct) : Prop where
 lv : okC (ct s.lv)
 hd : okC (ct s.hd)
theorem Nm.new {l : List Int} : Nm (newC l) := by
 have z : okC (0, 0, 0, 0, false, false) := by simp [okC]
 exact ⟨z, z⟩
end Go.Proofs.Ytmjjojbedllmgaa.Pure
end
section
namespace Go.Proofs.Ytmjjojbedllmgaa.Hand
end Go.Proofs.Ytmjjojbedllmgaa.Hand
end
section
namespace Go.Proofs.Ytmjjojbedllmgaa.Hand
end Go.Proofs.Ytmjjojbedllmgaa.Hand
end
section
namespace Go.Proofs.Ytmjjojbedllmgaa.G
end Go.Proofs.Ytmjjojbedllmgaa.G
end
section
namespace Go.Proofs.Ytmjjojbedllmgaa.Pure
open Go.RowKit Go.Proofs.Ytmjjojbedllmgaa.G Go.Proofs.Ytmjjojbedllmgaa.Hand
open Go.Proofs.YtmjjojbedllmgaaW.PrintWords Go.Proofs.YtmjjojbedllmgaaW.PrintLast Go.Proofs.YtmjjojbedllmgaaW.PrintMore
end Go.Proofs.Ytmjjojbedllmgaa.Pure
namespace Go.Proofs.Ytmjjojbedllmgaa.Hand
open Go.RowKit
open Go.Proofs.Ytmjjojbedllmgaa.G
open Go.Proofs.YtmjjojbedllmgaaW.PrintWords Go.Proofs.YtmjjojbedllmgaaW.PrintLast Go.Proofs.YtmjjojbedllmgaaW.PrintMore
open Go.Proofs.Ytmjjojbedllmgaa.Pure
theorem ck_read (c : Ck) (h : okC (ct c)) (n : Int) : c.read n = (rdC (ct c) n).1 := by
 have q := read_prog (ct c) h.wide n
 rw [nm_of h] at q
 have q2 : clock_Read.f c.s c.m c.h c.d c.ht c.cy n = some (rdC (ct c) n) := q
 rw [Ck.read, q2]
 rfl
theorem rclk_read (c : Ck) (h : okC (ct c)) (n : Int) : Puts 39 #[.agg #[.int .u8 c.s, .int .u8 c.m, .int .u8 c.h, .int .u16 c.d, .bool c.ht, .bool c.cy], .int .i64 n] (.tuple #[.int .u8 (c.read n), .int .i64 (rdC (ct c) n).2]) := by
 intro w
 rw [ck_read c h]
 have q := read_ref (ct c) h.wide n
 rw [nm_of h] at q
 exact whirligigref09_Read.calls _ _ _ _ _ _ n (rdC (ct c) n).1 (rdC (ct c) n).2 w q
end Go.Proofs.Ytmjjojbedllmgaa.Hand
end
section
namespace Go.Proofs.Ytmjjojbedllmgaa.Hand
open Go.RowKit
open Go.Proofs.Ytmjjojbedllmgaa.G
open Go.Proofs.YtmjjojbedllmgaaW.PrintWords Go.Proofs.YtmjjojbedllmgaaW.PrintLast Go.Proofs.YtmjjojbedllmgaaW.PrintMore
theorem rbank1 (a0_0 : Int) (a0_1 : Bool) (a0_2 a0_3 a0_4 : Int) (a0_5 : Bool) (a1 : Int) (c0 : a1 > 32767) (w : World) :
  Calls Try.prog 70 #[.agg #[.int .i64 a0_0, .bool a0_1, .int .u8 a0_2, .int .u8 a0_3, .int .u8 a0_4, .bool a0_5], .int .u16 a1] w fun e w' => e = .returned (.int .i64 (0)) ∧ Below w.heap.size w w' := by
 go_enter Try.func70, Try.ntmps70
 go_wp2
 go_returns
 exact ⟨rfl, by go_grown⟩
theorem rbank2 (a0_0 : Int) (a0_1 : Bool) (a0_2 a0_3 a0_4 : Int) (a0_5 : Bool) (a1 : Int) (c0 : ¬ a1 > 32767)(c1 : a1 > 16383)(cl : wrap64 a0_2 = 0) (w : World) :
  Calls Try.prog 70 #[.agg #[.int .i64 1, .bool a0_1, .int .u8 a0_2, .int .u8 a0_3, .int .u8 a0_4, .bool a0_5], .int .u16 a1] w fun e w' => e = .returned (.int .i64 (wrap64 (wrap64 (32 * wrap64 a0_3) + 1))) ∧ Below w.heap.size w w' := by
 go_enter Try.func70, Try.ntmps70
 go_wp2
 go_returns
 exact ⟨rfl, by go_grown⟩
theorem rbank3 (a0_0 : Int) (a0_1 : Bool) (a0_2 a0_3 a0_4 : Int) (a0_5 : Bool) (a1 : Int) (c0 : ¬ a1 > 32767)(c1 : ¬ a1 > 16383)(cl : wrap64 a0_2 = 0) (w : World) :
  Calls Try.prog 70 #[.agg #[.int .i64 1, .bool a0_1, .int .u8 a0_2, .int .u8 a0_3, .int .u8 a0_4, .bool true], .int .u16 a1] w fun e w' => e = .returned (.int .i64 (wrap64 (32 * wrap64 a0_3))) ∧ Below w.heap.size w w' := by
 go_enter Try.func70, Try.ntmps70
 go_wp2
 go_returns
 exact ⟨rfl, by go_grown⟩
theorem rbank4 (a0_0 : Int) (a0_1 : Bool) (a0_2 a0_3 a0_4 : Int) (a0_5 : Bool) (a1 : Int) (c0 : ¬ a1 > 32767)(c1 : ¬ a1 > 16383)(cl : wrap64 a0_2 = 0) (w : World) :
  Calls Try.prog 70 #[.agg #[.int .i64 1, .bool a0_1, .int .u8 a0_2, .int .u8 a0_3, .int .u8 a0_4, .bool false], .int .u16 a1] w fun e w' => e = .returned (.int .i64 (0)) ∧ Below w.heap.size w w' := by
 go_enter Try.func70, Try.ntmps70
 go_wp2
 go_returns
 exact ⟨rfl, by go_grown⟩
theorem rbank5 (a0_0 : Int) (a0_1 : Bool) (a0_2 a0_3 a0_4 : Int) (a0_5 : Bool) (a1 : Int) (c0 : ¬ a1 > 32767)(c1 : a1 > 16383)(cl : wrap64 a0_2 = 0) (w : World) :
  Calls Try.prog 70 #[.agg #[.int .i64 3, .bool a0_1, .int .u8 a0_2, .int .u8 a0_3, .int .u8 a0_4, .bool a0_5], .int .u16 a1] w fun e w' => e = .returned (.int .i64 (1)) ∧ Below w.heap.size w w' := by
 go_enter Try.func70, Try.ntmps70
 go_wp2
 go_returns
 exact ⟨rfl, by go_grown⟩
theorem rbank6 (a0_0 : Int) (a0_1 : Bool) (a0_2 a0_3 a0_4 : Int) (a0_5 : Bool) (a1 : Int) (c0 : ¬ a1 > 32767)(c1 : ¬ a1 > 16383)(cl : wrap64 a0_2 = 0) (w : World) :
  Calls Try.prog 70 #[.agg #[.int .i64 3, .bool a0_1, .int .u8 a0_2, .int .u8 a0_3, .int .u8 a0_4, .bool a0_5], .int .u16 a1] w fun e w' => e = .returned (.int .i64 (0)) ∧ Below w.heap.size w w' := by
 go_enter Try.func70, Try.ntmps70
 go_wp2
 go_returns
 exact ⟨rfl, by go_grown⟩
theorem rbank7 (a0_0 : Int) (a0_1 : Bool) (a0_2 a0_3 a0_4 : Int) (a0_5 : Bool) (a1 : Int) (c0 : ¬ a1 > 32767)(c1 : a1 > 16383)(cl : wrap64 a0_2 = 0) (w : World) :
  Calls Try.prog 70 #[.agg #[.int .i64 5, .bool a0_1, .int .u8 a0_2, .int .u8 a0_3, .int .u8 a0_4, .bool a0_5], .int .u16 a1] w fun e w' => e = .returned (.int .i64 (wrap64 (wrap64 (256 * wrap64 a0_3) + wrap64 a0_2))) ∧ Below w.heap.size w w' := by
 go_enter Try.func70, Try.ntmps70
 go_wp2
 go_returns
 exact ⟨rfl, by go_grown⟩
theorem rbank8 (a0_0 : Int) (a0_1 : Bool) (a0_2 a0_3 a0_4 : Int) (a0_5 : Bool) (a1 : Int) (c0 : ¬ a1 > 32767)(c1 : ¬ a1 > 16383)(cl : wrap64 a0_2 = 0) (w : World) :
  Calls Try.prog 70 #[.agg #[.int .i64 5, .bool a0_1, .int .u8 a0_2, .int .u8 a0_3, .int .u8 a0_4, .bool a0_5], .int .u16 a1] w fun e w' => e = .returned (.int .i64 (0)) ∧ Below w.heap.size w w' := by
 go_enter Try.func70, Try.ntmps70
 go_wp2
 go_returns
 exact ⟨rfl, by go_grown⟩
theorem rbank9 (a0_0 : Int) (a0_1 : Bool) (a0_2 a0_3 a0_4 : Int) (a0_5 : Bool) (a1 : Int) (c0 : ¬ a1 > 32767)(c1 : a1 > 16383)(cl : wrap64 a0_2 = 0)(k1 : ¬ a0_0 = 1) (k3 : ¬ a0_0 = 3) (k5 : ¬ a0_0 = 5) (w : World) :
  Calls Try.prog 70 #[.agg #[.int .i64 a0_0, .bool a0_1, .int .u8 a0_2, .int .u8 a0_3, .int .u8 a0_4, .bool a0_5], .int .u16 a1] w fun e w' => e = .returned (.int .i64 (1)) ∧ Below w.heap.size w w' := by
 go_enter Try.func70, Try.ntmps70
 go_wp2
 go_returns
 exact ⟨rfl, by go_grown⟩
theorem rbank10 (a0_0 : Int) (a0_1 : Bool) (a0_2 a0_3 a0_4 : Int) (a0_5 : Bool) (a1 : Int) (c0 : ¬ a1 > 32767)(c1 : ¬ a1 > 16383)(cl : wrap64 a0_2 = 0)(k1 : ¬ a0_0 = 1) (k3 : ¬ a0_0 = 3) (k5 : ¬ a0_0 = 5) (w : World) :
  Calls Try.prog 70 #[.agg #[.int .i64 a0_0, .bool a0_1, .int .u8 a0_2, .int .u8 a0_3, .int .u8 a0_4, .bool a0_5], .int .u16 a1] w fun e w' => e = .returned (.int .i64 (0)) ∧ Below w.heap.size w w' := by
 go_enter Try.func70, Try.ntmps70
 go_wp2
 go_returns
 exact ⟨rfl, by go_grown⟩
theorem rbank11 (a0_0 : Int) (a0_1 : Bool) (a0_2 a0_3 a0_4 : Int) (a0_5 : Bool) (a1 : Int) (c0 : ¬ a1 > 32767)(c1 : a1 > 16383)(cl : ¬ wrap64 a0_2 = 0) (w : World) :
  Calls Try.prog 70 #[.agg #[.int .i64 1, .bool a0_1, .int .u8 a0_2, .int .u8 a0_3, .int .u8 a0_4, .bool a0_5], .int .u16 a1] w fun e w' => e = .returned (.int .i64 (wrap64 (wrap64 (32 * wrap64 a0_3) + wrap64 a0_2))) ∧ Below w.heap.size w w' := by
 go_enter Try.func70, Try.ntmps70
 go_wp2
 go_returns
 exact ⟨rfl, by go_grown⟩
theorem rbank12 (a0_0 : Int) (a0_1 : Bool) (a0_2 a0_3 a0_4 : Int) (a0_5 : Bool) (a1 : Int) (c0 : ¬ a1 > 32767)(c1 : ¬ a1 > 16383)(cl : ¬ wrap64 a0_2 = 0) (w : World) :
  Calls Try.prog 70 #[.agg #[.int .i64 1, .bool a0_1, .int .u8 a0_2, .int .u8 a0_3, .int .u8 a0_4, .bool true], .int .u16 a1] w fun e w' => e = .returned (.int .i64 (wrap64 (32 * wrap64 a0_3))) ∧ Below w.heap.size w w' := by
 go_enter Try.func70, Try.ntmps70
 go_wp2
 go_returns
 exact ⟨rfl, by go_grown⟩
theorem rbank13 (a0_0 : Int) (a0_1 : Bool) (a0_2 a0_3 a0_4 : Int) (a0_5 : Bool) (a1 : Int) (c0 : ¬ a1 > 32767)(c1 : ¬ a1 > 16383)(cl : ¬ wrap64 a0_2 = 0) (w : World) :
  Calls Try.prog 70 #[.agg #[.int .i64 1, .bool a0_1, .int .u8 a0_2, .int .u8 a0_3, .int .u8 a0_4, .bool false], .int .u16 a1] w fun e w' => e = .returned (.int .i64 (0)) ∧ Below w.heap.size w w' := by
 go_enter Try.func70, Try.ntmps70
 go_wp2
 go_returns
 exact ⟨rfl, by go_grown⟩
theorem rbank14 (a0_0 : Int) (a0_1 : Bool) (a0_2 a0_3 a0_4 : Int) (a0_5 : Bool) (a1 : Int) (c0 : ¬ a1 > 32767)(c1 : a1 > 16383)(cl : ¬ wrap64 a0_2 = 0) (w : World) :
  Calls Try.prog 70 #[.agg #[.int .i64 3, .bool a0_1, .int .u8 a0_2, .int .u8 a0_3, .int .u8 a0_4, .bool a0_5], .int .u16 a1] w fun e w' => e = .returned (.int .i64 (wrap64 a0_2)) ∧ Below w.heap.size w w' := by
 go_enter Try.func70, Try.ntmps70
 go_wp2
 go_returns
 exact ⟨rfl, by go_grown⟩
theorem rbank15 (a0_0 : Int) (a0_1 : Bool) (a0_2 a0_3 a0_4 : Int) (a0_5 : Bool) (a1 : Int) (c0 : ¬ a1 > 32767)(c1 : ¬ a1 > 16383)(cl : ¬ wrap64 a0_2 = 0) (w : World) :
  Calls Try.prog 70 #[.agg #[.int .i64 3, .bool a0_1, .int .u8 a0_2, .int .u8 a0_3, .int .u8 a0_4, .bool a0_5], .int .u16 a1] w fun e w' => e = .returned (.int .i64 (0)) ∧ Below w.heap.size w w' := by
 go_enter Try.func70, Try.ntmps70
 go_wp2
 go_returns
 exact ⟨rfl, by go_grown⟩
theorem rbank16 (a0_0 : Int) (a0_1 : Bool) (a0_2 a0_3 a0_4 : Int) (a0_5 : Bool) (a1 : Int) (c0 : ¬ a1 > 32767)(c1 : a1 > 16383)(cl : ¬ wrap64 a0_2 = 0) (w : World) :
  Calls Try.prog 70 #[.agg #[.int .i64 5, .bool a0_1, .int .u8 a0_2, .int .u8 a0_3, .int .u8 a0_4, .bool a0_5], .int .u16 a1] w fun e w' => e = .returned (.int .i64 (wrap64 (wrap64 (256 * wrap64 a0_3) + wrap64 a0_2))) ∧ Below w.heap.size w w' := by
 go_enter Try.func70, Try.ntmps70
 go_wp2
 go_returns
 exact ⟨rfl, by go_grown⟩
theorem rbank17 (a0_0 : Int) (a0_1 : Bool) (a0_2 a0_3 a0_4 : Int) (a0_5 : Bool) (a1 : Int) (c0 : ¬ a1 > 32767)(c1 : ¬ a1 > 16383)(cl : ¬ wrap64 a0_2 = 0) (w : World) :
  Calls Try.prog 70 #[.agg #[.int .i64 5, .bool a0_1, .int .u8 a0_2, .int .u8 a0_3, .int .u8 a0_4, .bool a0_5], .int .u16 a1] w fun e w' => e = .returned (.int .i64 (0)) ∧ Below w.heap.size w w' := by
 go_enter Try.func70, Try.ntmps70
 go_wp2
 go_returns
 exact ⟨rfl, by go_grown⟩
theorem rbank18 (a0_0 : Int) (a0_1 : Bool) (a0_2 a0_3 a0_4 : Int) (a0_5 : Bool) (a1 : Int) (c0 : ¬ a1 > 32767)(c1 : a1 > 16383)(cl : ¬ wrap64 a0_2 = 0)(k1 : ¬ a0_0 = 1) (k3 : ¬ a0_0 = 3) (k5 : ¬ a0_0 = 5) (w : World) :
  Calls Try.prog 70 #[.agg #[.int .i64 a0_0, .bool a0_1, .int .u8 a0_2, .int .u8 a0_3, .int .u8 a0_4, .bool a0_5], .int .u16 a1] w fun e w' => e = .returned (.int .i64 (1)) ∧ Below w.heap.size w w' := by
 go_enter Try.func70, Try.ntmps70
 go_wp2
 go_returns
 exact ⟨rfl, by go_grown⟩
theorem rbank19 (a0_0 : Int) (a0_1 : Bool) (a0_2 a0_3 a0_4 : Int) (a0_5 : Bool) (a1 : Int) (c0 : ¬ a1 > 32767)(c1 : ¬ a1 > 16383)(cl : ¬ wrap64 a0_2 = 0)(k1 : ¬ a0_0 = 1) (k3 : ¬ a0_0 = 3) (k5 : ¬ a0_0 = 5) (w : World) :
  Calls Try.prog 70 #[.agg #[.int .i64 a0_0, .bool a0_1, .int .u8 a0_2, .int .u8 a0_3, .int .u8 a0_4, .bool a0_5], .int .u16 a1] w fun e w' => e = .returned (.int .i64 (0)) ∧ Below w.heap.size w w' := by
 go_enter Try.func70, Try.ntmps70
 go_wp2
 go_returns
 exact ⟨rfl, by go_grown⟩
def rbankF (k l h : Int) (md : Bool) (a : Int) : Int :=
 if a > 32767 then 0 else
 if k = 1 then (if a > 16383 then wrap64 (wrap64 (32 * wrap64 h) + (if wrap64 l = 0 then 1 else wrap64 l)) else if md = true then wrap64 (32 * wrap64 h) else 0) else
 if k = 3 then (if a > 16383 then (if wrap64 l = 0 then 1 else wrap64 l) else 0) else
 if k = 5 then (if a > 16383 then wrap64 (wrap64 (256 * wrap64 h) + wrap64 l) else 0) else
 if a > 16383 then 1 else 0
def whirligigref08_Bank.f (a0_0 : Int) (a0_1 : Bool) (a0_2 a0_3 a0_4 : Int) (a0_5 : Bool) (a1 : Int) : Option Int := some (rbankF a0_0 a0_2 a0_3 a0_5 a1)
theorem whirligigref08_Bank.calls (a0_0 : Int) (a0_1 : Bool) (a0_2 a0_3 a0_4 : Int) (a0_5 : Bool) (a1 : Int) (r : Int) (w : World) (hf : whirligigref08_Bank.f a0_0 a0_1 a0_2 a0_3 a0_4 a0_5 a1 = some r) :
  Calls Try.prog 70 #[.agg #[.int .i64 a0_0, .bool a0_1, .int .u8 a0_2, .int .u8 a0_3, .int .u8 a0_4, .bool a0_5], .int .u16 a1] w fun e w' => e = .returned (.int .i64 r) ∧ Below w.heap.size w w' := by
 obtain rfl := Option.some.inj hf
 clear hf
 unfold rbankF
 by_cases c0 : a1 > 32767
 ·rw [if_pos c0]; exact rbank1 _ _ _ _ _ _ _ c0 w
 rw [if_neg c0]
 by_cases k1 : a0_0 = 1
 ·subst k1
  rw [if_pos rfl]
  by_cases c1 : a1 > 16383
  ·rw [if_pos c1]
   by_cases cl : wrap64 a0_2 = 0
   ·rw [if_pos cl]; exact rbank2 0 _ _ _ _ _ _ c0 c1 cl w
   ·rw [if_neg cl]; exact rbank11 0 _ _ _ _ _ _ c0 c1 cl w
  ·rw [if_neg c1]
   cases a0_5 with
   | true =>
    by_cases cl : wrap64 a0_2 = 0
    ·exact rbank3 0 _ _ _ _ true _ c0 c1 cl w
    ·exact rbank12 0 _ _ _ _ true _ c0 c1 cl w
   | false =>
    by_cases cl : wrap64 a0_2 = 0
    ·exact rbank4 0 _ _ _ _ false _ c0 c1 cl w
    ·exact rbank13 0 _ _ _ _ false _ c0 c1 cl w
 rw [if_neg k1]
 by_cases k3 : a0_0 = 3
 ·subst k3
  rw [if_pos rfl]
  by_cases c1 : a1 > 16383
  ·rw [if_pos c1]
   by_cases cl : wrap64 a0_2 = 0
   ·rw [if_pos cl]; exact rbank5 0 _ _ _ _ _ _ c0 c1 cl w
   ·rw [if_neg cl]; exact rbank14 0 _ _ _ _ _ _ c0 c1 cl w
  ·rw [if_neg c1]
   by_cases cl : wrap64 a0_2 = 0
   ·exact rbank6 0 _ _ _ _ _ _ c0 c1 cl w
   ·exact rbank15 0 _ _ _ _ _ _ c0 c1 cl w
 rw [if_neg k3]
 by_cases k5 : a0_0 = 5
 ·subst k5
  rw [if_pos rfl]
  by_cases c1 : a1 > 16383
  ·rw [if_pos c1]
   by_cases cl : wrap64 a0_2 = 0
   ·exact rbank7 0 _ _ _ _ _ _ c0 c1 cl w
   ·exact rbank16 0 _ _ _ _ _ _ c0 c1 cl w
  ·rw [if_neg c1]
   by_cases cl : wrap64 a0_2 = 0
   ·exact rbank8 0 _ _ _ _ _ _ c0 c1 cl w
   ·exact rbank17 0 _ _ _ _ _ _ c0 c1 cl w
 rw [if_neg k5]
 by_cases c1 : a1 > 16383
 ·rw [if_pos c1]
  by_cases cl : wrap64 a0_2 = 0
  ·exact rbank9 _ _ _ _ _ _ _ c0 c1 cl k1 k3 k5 w
  ·exact rbank18 _ _ _ _ _ _ _ c0 c1 cl k1 k3 k5 w
 ·rw [if_neg c1]
  by_cases cl : wrap64 a0_2 = 0
  ·exact rbank10 _ _ _ _ _ _ _ c0 c1 cl k1 k3 k5 w
  ·exact rbank19 _ _ _ _ _ _ _ c0 c1 cl k1 k3 k5 w
end Go.Proofs.Ytmjjojbedllmgaa.Hand
end
section
namespace Go.Proofs.Ytmjjojbedllmgaa.Hand
end Go.Proofs.Ytmjjojbedllmgaa.Hand
end
section
namespace Go.Proofs.Ytmjjojbedllmgaa.G
open Go.RowKit Go.Proofs.YtmjjojbedllmgaaW.PrintWords Go.Proofs.YtmjjojbedllmgaaW.PrintLast Go.Proofs.YtmjjojbedllmgaaW.PrintMore
open Go.Proofs.Ytmjjojbedllmgaa.Hand
def whirligigref08_Rom.f (a0_0 : Int) (a0_1 : Bool) (a0_2 : Int) (a0_3 : Int) (a0_4 : Int) (a0_5 : Bool) (a1 : Int) (a2 : Int) : Option (Int) := if a2 < 1 then (some (-1)) else (if a1 > 32767 then (some (-1)) else ((whirligigref08_Bank.f a0_0 a0_1 a0_2 a0_3 a0_4 a0_5 a1).bind fun t233 => (if a2 = 0 then (none) else (some (Int.tmod (wrap64 ((wrap64 (16384 * t233)) + (Int.tmod (wrap64 (a1)) 16384))) a2)))))
theorem whirligigref08_Rom.calls (a0_0 : Int) (a0_1 : Bool) (a0_2 : Int) (a0_3 : Int) (a0_4 : Int) (a0_5 : Bool) (a1 : Int) (a2 : Int) (r : Int) (w : World) (h : whirligigref08_Rom.f a0_0 a0_1 a0_2 a0_3 a0_4 a0_5 a1 a2 = some r) :
  Calls Try.prog 37 #[.agg #[.int .i64 a0_0, .bool a0_1, .int .u8 a0_2, .int .u8 a0_3, .int .u8 a0_4, .bool a0_5], .int .u16 a1, .int .i64 a2] w fun e w' => e = .returned (.int .i64 r) ∧ Below w.heap.size w w' := by
 have hu32 := Try.underlying32
 have HB := Aside0.mk (Below.refl w.heap.size w)
 have H : (if a2 < 1 then (some (-1)) else (if a1 > 32767 then (some (-1)) else ((whirligigref08_Bank.f a0_0 a0_1 a0_2 a0_3 a0_4 a0_5 a1).bind fun t233 => (if a2 = 0 then (none) else (some (Int.tmod (wrap64 ((wrap64 (16384 * t233)) + (Int.tmod (wrap64 (a1)) 16384))) a2)))))) = some r := h
 clear h
 by_cases c4 : a2 < 1
 case' _ =>
  rw [if_pos c4] at H
  have c4b0 : decide (a2 < 1) = true := decide_eq_true c4
  clear c4
  obtain rfl := Option.some.inj H
 rotate_right
 case' _ =>
  rw [if_neg c4] at H
  have c4b0 : decide (a2 < 1) = false := decide_eq_false c4
  clear c4
  by_cases c6 : a1 > 32767
  case' _ =>
   rw [if_pos c6] at H
   have c6b0 : decide (32767 < a1) = true := decide_eq_true c6
   clear c6
   obtain rfl := Option.some.inj H
  rotate_right
  case' _ =>
   rw [if_neg c6] at H
   have c6b0 : decide (32767 < a1) = false := decide_eq_false c6
   clear c6
   replace H := Option.bind_eq_some_iff.mp H
   obtain ⟨t233, A80, H⟩ := H
   replace H : (if a2 = 0 then (none) else (some (Int.tmod (wrap64 ((wrap64 (16384 * t233)) + (Int.tmod (wrap64 (a1)) 16384))) a2))) = some r := H
   have A8 := Aside0.mk A80
   clear A80
   by_cases c9 : a2 = 0
   case' _ =>
    rw [if_pos c9] at H
    exact absurd H (by simp)
   rotate_right
   case' _ =>
    rw [if_neg c9] at H
    have c9b0 : (a2 == 0) = false := beq_eq_false_iff_ne.mpr c9
    have c9b1 : (a2 != 0) = true := bne_iff_ne.mpr c9
    obtain rfl := Option.some.inj H
    go_enter Try.func37, Try.ntmps37
    go_wp2_with (first | ((with_reducible refine gate_dst (N := 3) rfl ?_); refine box_event ?hg (N := 3) ?hd (cs := #[.int .i64 a0_0, .bool a0_1, .int .u8 a0_2, .int .u8 a0_3, .int .u8 a0_4, .bool a0_5]) (t := 32) ?hr ?_; (case hd => rfl); (case hg => rfl); (case hr => first | (go_simp; done) | (go_simp; rfl)); intro gb232 hg w900 hbox hb; have n0_ := Aside0.mk (below_step (by repeat (first | (with_reducible first | exact HB.out | apply below_alloc | apply pw_below_drewN | apply below_drew1) | exact HB.out)) hb); have n1_ := Aside0.mk (hbox); have n2_ := Aside0.mk ((by rw [hg]; exact (below_size (by repeat (first | (with_reducible first | exact HB.out | apply below_alloc | apply pw_below_drewN | apply below_drew1) | exact HB.out))) : w.heap.size ≤ gb232)); have n3_ := Aside0.mk ((by rw [hg]; exact (below_size (by repeat (first | (with_reducible first | exact HB.out | apply below_alloc | apply pw_below_drewN | apply below_drew1) | exact HB.out))) : w.heap.size ≤ gb232)); clear HB; have HB := n0_; have BK232 := n1_; have GW232 := n2_; have GE232 := n3_; clear n0_ n1_ n2_ n3_; clear hb hbox hg; have hcz901_0 : w900.cell? ⟨gb232, 0, none⟩ = some (.int .i64 a0_0) := (blk_cell BK232.out 0).trans rfl; have hcz901_1 : w900.cell? ⟨gb232, 1, none⟩ = some (.bool a0_1) := (blk_cell BK232.out 1).trans rfl; have hcz901_2 : w900.cell? ⟨gb232, 2, none⟩ = some (.int .u8 a0_2) := (blk_cell BK232.out 2).trans rfl; have hcz901_3 : w900.cell? ⟨gb232, 3, none⟩ = some (.int .u8 a0_3) := (blk_cell BK232.out 3).trans rfl; have hcz901_4 : w900.cell? ⟨gb232, 4, none⟩ = some (.int .u8 a0_4) := (blk_cell BK232.out 4).trans rfl; have hcz901_5 : w900.cell? ⟨gb232, 5, none⟩ = some (.bool a0_5) := (blk_cell BK232.out 5).trans rfl; have hfz901_0 := blk_frozen BK232.out 0; have hfz901_1 := blk_frozen BK232.out 1; have hfz901_2 := blk_frozen BK232.out 2; have hfz901_3 := blk_frozen BK232.out 3; have hfz901_4 := blk_frozen BK232.out 4; have hfz901_5 := blk_frozen BK232.out 5) | ((with_reducible refine gate_callee (f := 70) rfl ?_); refine goesL_ (some 15) rfl rfl Try.func70 (by kernel_rfl) rfl #[.agg #[.int .i64 a0_0, .bool a0_1, .int .u8 a0_2, .int .u8 a0_3, .int .u8 a0_4, .bool a0_5], .int .u16 a1] rfl (by (try simp only [List.map_toArray, List.map_cons, List.map_nil]); first | done | rfl | (simp only [List.length_drop, List.length_take]; rfl)) ?_; (with_reducible refine (whirligigref08_Bank.calls _ _ _ _ _ _ _ _ _ A8.out).mono ?_); rintro e w902 ⟨rfl, hb⟩; refine ⟨_, rfl, ?_⟩; have n0_ := Aside0.mk (blk_below (g := gb232) (o := .cells #[.int .i64 a0_0, .bool a0_1, .int .u8 a0_2, .int .u8 a0_3, .int .u8 a0_4, .bool a0_5] 32 (0, 0)) (by (with_reducible repeat (first | refine blk_drewN ?_ _ | refine blk_drew ?_ | refine blk_alloc ?_ _)); exact BK232.out) hb); have n1_ := Aside0.mk (below_step (by repeat (first | (with_reducible first | exact HB.out | apply below_alloc | apply pw_below_drewN | apply below_drew1 | refine below_set ?_ GE232.out) | exact HB.out)) hb); clear BK232; clear HB; have BK232 := n0_; have HB := n1_; clear n0_ n1_; (try clear hb); (try clear hb2); (try clear hk); (try clear hi)))
    go_ret
    exact ⟨by first | rfl | (simp [errW_none, errW_some] <;> rfl) | (simp [*, errW_none, errW_some] <;> rfl), by repeat (first | (with_reducible first | exact HB.out | apply below_alloc | apply pw_below_drewN | apply below_drew1 | refine below_set ?_ GE232.out) | exact HB.out)⟩
 all_goals
  go_enter Try.func37, Try.ntmps37
  go_wp2_with (first | ((with_reducible refine gate_dst (N := 3) rfl ?_); refine box_event ?hg (N := 3) ?hd (cs := #[.int .i64 a0_0, .bool a0_1, .int .u8 a0_2, .int .u8 a0_3, .int .u8 a0_4, .bool a0_5]) (t := 32) ?hr ?_; (case hd => rfl); (case hg => rfl); (case hr => first | (go_simp; done) | (go_simp; rfl)); intro gb232 hg w900 hbox hb; have n0_ := Aside0.mk (below_step (by repeat (first | (with_reducible first | exact HB.out | apply below_alloc | apply pw_below_drewN | apply below_drew1) | exact HB.out)) hb); have n1_ := Aside0.mk (hbox); have n2_ := Aside0.mk ((by rw [hg]; exact (below_size (by repeat (first | (with_reducible first | exact HB.out | apply below_alloc | apply pw_below_drewN | apply below_drew1) | exact HB.out))) : w.heap.size ≤ gb232)); have n3_ := Aside0.mk ((by rw [hg]; exact (below_size (by repeat (first | (with_reducible first | exact HB.out | apply below_alloc | apply pw_below_drewN | apply below_drew1) | exact HB.out))) : w.heap.size ≤ gb232)); clear HB; have HB := n0_; have BK232 := n1_; have GW232 := n2_; have GE232 := n3_; clear n0_ n1_ n2_ n3_; clear hb hbox hg))
  go_ret
  exact ⟨by first | rfl | (simp [errW_none, errW_some] <;> rfl) | (simp [*, errW_none, errW_some] <;> rfl), by repeat (first | (with_reducible first | exact HB.out | apply below_alloc | apply pw_below_drewN | apply below_drew1 | refine below_set ?_ GE232.out) | exact HB.out)⟩
end Go.Proofs.Ytmjjojbedllmgaa.G
end
section
namespace Go.Proofs.Ytmjjojbedllmgaa.G
open Go.RowKit Go.Proofs.YtmjjojbedllmgaaW.PrintWords Go.Proofs.YtmjjojbedllmgaaW.PrintLast Go.Proofs.YtmjjojbedllmgaaW.PrintMore
def whirligigref08_window.f (a0 : Int) : Option (Bool) := if a0 ≥ 40960 then (some (decide (a0 ≤ 49151))) else (some false)
theorem whirligigref08_window.calls (a0 : Int) (r : Bool) (w : World) (h : whirligigref08_window.f a0 = some r) :
  Calls Try.prog 73 #[.int .u16 a0] w fun e w' => e = .returned (.bool r) ∧ Drawn0 w w' := by
 have H : (if a0 ≥ 40960 then (some (decide (a0 ≤ 49151))) else (some false)) = some r := h
 clear h
 by_cases c2 : a0 ≥ 40960
 ·rw [if_pos c2] at H
  have c2b0 : decide (40960 ≤ a0) = true := decide_eq_true c2
  clear c2
  obtain rfl := Option.some.inj H
  go_enter Try.func73, Try.ntmps73
  go_wp2
  go_ret
  exact ⟨by first | rfl | (simp; done) | (simp [*]; done), by repeat (first | exact Drawn0.refl _ | apply Drawn0.step)⟩
 ·rw [if_neg c2] at H
  have c2b0 : decide (40960 ≤ a0) = false := decide_eq_false c2
  clear c2
  obtain rfl := Option.some.inj H
  go_enter Try.func73, Try.ntmps73
  go_wp2
  go_ret
  exact ⟨by first | rfl | (simp; done) | (simp [*]; done), by repeat (first | exact Drawn0.refl _ | apply Drawn0.step)⟩
end Go.Proofs.Ytmjjojbedllmgaa.G
end
