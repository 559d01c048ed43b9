/- What the proof of the statement CartPlays stands on, part 4. (Packed by pack.py out of this session's texts.) -/
import Derived.Deep.MidRow
import Derived.Deep.RegionWith
import Derived.BigRegion
import Derived.Handy
import Derived.Deep.RegionLaw
import Derived.Deep.RegionHeld2
import Derived.Deep.RegionHeld3
import Derived.Test.YtmjjojbedllmgaaQCartPlays3
set_option linter.unusedVariables false
set_option linter.unusedSimpArgs false
set_option maxRecDepth 100000
set_option maxHeartbeats 20000000
open Go.RowKit Go.Proofs.YtmjjojbedllmgaaW.PrintWords Go.Proofs.YtmjjojbedllmgaaW.PrintLast Go.Proofs.YtmjjojbedllmgaaW.PrintMore Go.Proofs.Ytmjjojbedllmgaa.G
namespace Go.Proofs.Ytmjjojbedllmgaa.Hand
def Mp.write (m : Mp) (ad v : Int) : Mp := match writeF m.k m.o m.l m.h m.r m.md ad v with | (k, o, l, h, r, md) => ⟨k, o, l, h, r, md⟩
theorem Mp.write_eq (m : Mp) (ad v : Int) : cw.f m.k m.o m.l m.h m.r m.md ad v = some ((m.write ad v).k, (m.write ad v).o, (m.write ad v).l, (m.write ad v).h, (m.write ad v).r, (m.write ad v).md) := rfl
def Ck.write (c : Ck) (n v : Int) : Ck := match (av.f c.s c.m c.h c.d c.ht c.cy n v).getD (0, 0, 0, 0, false, false, 0) with | (s, m, h, d, ht, cy, _) => ⟨s, m, h, d, ht, cy⟩
def Ck.writeE (c : Ck) (n v : Int) : Int := ((av.f c.s c.m c.h c.d c.ht c.cy n v).getD (0, 0, 0, 0, false, false, 0)).2.2.2.2.2.2
theorem bm (a b c d : Int) (e f : Bool) (n v : Int) : ∃ x, av.f a b c d e f n v = some x := by
 unfold av.f aV.f
 simp only [Option.bind_some]
 repeat' split
 all_goals exact ⟨_, rfl⟩
theorem Ck.write_eq (c : Ck) (n v : Int) : av.f c.s c.m c.h c.d c.ht c.cy n v = some ((c.write n v).s, (c.write n v).m, (c.write n v).h, (c.write n v).d, (c.write n v).ht, (c.write n v).cy, c.writeE n v) := by
 obtain ⟨x, hx⟩ := bm c.s c.m c.h c.d c.ht c.cy n v
 unfold Ck.write Ck.writeE
 rw [hx]
 rfl
def Ct.write (s : Ct) (ad v : Int) : Ct :=
 if ad < 32768 then
  if s.hdr.ck = true ∧ ad ≥ 24576 then Ct.latch { s with mp := s.mp.write ad v } v else { s with mp := s.mp.write ad v }
 else if (s.reg ad).getD 0 > 0 then { s with lv := s.lv.write ((s.reg ad).getD 0) v }
 else if s.at ad ≥ 0 then { s with ram := s.ram.set (s.at ad).toNat v } else s
theorem write_lo {w : World} {a : Ad} {s : Ct} (h : ax w a s) (ad v : Int) (hlo : ad < 32768) (hck : s.hdr.ck = false) :
  Calls Try.prog 18 #[a.p, .int .u16 ad, .int .u8 v] w fun e w' => e = .returned (.tuple #[]) ∧ ax w' a { s with mp := s.mp.write ad v } ∧ Upto a.S w w' := by
 have HH := ab.mk h
 clear h
 go_enter Try.func18, Try.ntmps18
 go_wp2_with fail
 refine (bI HH.out).mono ?_
 rintro e' w1 ⟨rfl, hw⟩
 replace hw := hw.symm
 subst hw
 have c0 := HH.out.c0
 have c1 := HH.out.c1
 have c2 := HH.out.c2
 have c3 := HH.out.c3
 have c4 := HH.out.c4
 have c5 := HH.out.c5
 go_wp2_with fail
 refine (cw.calls _ _ _ _ _ _ _ _ _ _ _ _ _ _ _ (s.mp.write_eq ad v)).mono ?_
 rintro e' w1 ⟨rfl, hb⟩
 have h1 := HH.out.below hb
 have d0 := h1.c0
 have d1 := h1.c1
 have d2 := h1.c2
 have d3 := h1.c3
 have d4 := h1.c4
 have d5 := h1.c5
 have d24 := h1.c24
 rw [hck] at d24
 have fz := h1.frozen
 have H1 := ab.mk h1
 have HB := ab.mk hb
 clear h1 hb c0 c1 c2 c3 c4 c5
 go_wp2
 go_returns
 refine ⟨rfl, HH.out.stored (by
  have p := (aJ (aJ (aJ (aJ (aJ (aJ H1.out.box 0 (.int .i64 (s.mp.write ad v).k)) 1 (.bool (s.mp.write ad v).o)) 2 (.int .u8 (s.mp.write ad v).l)) 3 (.int .u8 (s.mp.write ad v).h)) 4 (.int .u8 (s.mp.write ad v).r)) 5 (.bool (s.mp.write ad v).md))
  rw [cells_mp] at p
  exact p) ?_ rfl rfl⟩
 with_reducible (refine Upto.setB ?_ _ _; refine Upto.setB ?_ _ _; refine Upto.setB ?_ _ _; refine Upto.setB ?_ _ _; refine Upto.setB ?_ _ _; refine Upto.setB ?_ _ _; exact Upto.of_below HB.out)
theorem write_lo2 {w : World} {a : Ad} {s : Ct} (h : ax w a s) (ad v : Int) (hlo : ad < 32768) (hck : s.hdr.ck = true) (ha : ¬ ad ≥ 24576) :
  Calls Try.prog 18 #[a.p, .int .u16 ad, .int .u8 v] w fun e w' => e = .returned (.tuple #[]) ∧ ax w' a { s with mp := s.mp.write ad v } ∧ Upto a.S w w' := by
 have HH := ab.mk h
 clear h
 go_enter Try.func18, Try.ntmps18
 go_wp2_with fail
 refine (bI HH.out).mono ?_
 rintro e' w1 ⟨rfl, hw⟩
 replace hw := hw.symm
 subst hw
 have c0 := HH.out.c0
 have c1 := HH.out.c1
 have c2 := HH.out.c2
 have c3 := HH.out.c3
 have c4 := HH.out.c4
 have c5 := HH.out.c5
 go_wp2_with fail
 refine (cw.calls _ _ _ _ _ _ _ _ _ _ _ _ _ _ _ (s.mp.write_eq ad v)).mono ?_
 rintro e' w1 ⟨rfl, hb⟩
 have h1 := HH.out.below hb
 have d0 := h1.c0
 have d1 := h1.c1
 have d2 := h1.c2
 have d3 := h1.c3
 have d4 := h1.c4
 have d5 := h1.c5
 have d24 := h1.c24
 rw [hck] at d24
 have fz := h1.frozen
 have H1 := ab.mk h1
 have HB := ab.mk hb
 clear h1 hb c0 c1 c2 c3 c4 c5
 go_wp2
 go_returns
 refine ⟨rfl, HH.out.stored (by
  have p := (aJ (aJ (aJ (aJ (aJ (aJ H1.out.box 0 (.int .i64 (s.mp.write ad v).k)) 1 (.bool (s.mp.write ad v).o)) 2 (.int .u8 (s.mp.write ad v).l)) 3 (.int .u8 (s.mp.write ad v).h)) 4 (.int .u8 (s.mp.write ad v).r)) 5 (.bool (s.mp.write ad v).md))
  rw [cells_mp] at p
  exact p) ?_ rfl rfl⟩
 with_reducible (refine Upto.setB ?_ _ _; refine Upto.setB ?_ _ _; refine Upto.setB ?_ _ _; refine Upto.setB ?_ _ _; refine Upto.setB ?_ _ _; refine Upto.setB ?_ _ _; exact Upto.of_below HB.out)
theorem write_latch {w : World} {a : Ad} {s : Ct} (h : ax w a s) (ad v : Int) (hlo : ad < 32768) (hck : s.hdr.ck = true) (ha : ad ≥ 24576) :
  Calls Try.prog 18 #[a.p, .int .u16 ad, .int .u8 v] w fun e w' => e = .returned (.tuple #[]) ∧ ax w' a (Ct.latch { s with mp := s.mp.write ad v } v) ∧ Upto a.S w w' := by
 have HH := ab.mk h
 clear h
 go_enter Try.func18, Try.ntmps18
 go_wp2_with fail
 refine (bI HH.out).mono ?_
 rintro e' w1 ⟨rfl, hw⟩
 replace hw := hw.symm
 subst hw
 have c0 := HH.out.c0
 have c1 := HH.out.c1
 have c2 := HH.out.c2
 have c3 := HH.out.c3
 have c4 := HH.out.c4
 have c5 := HH.out.c5
 go_wp2_with fail
 refine (cw.calls _ _ _ _ _ _ _ _ _ _ _ _ _ _ _ (s.mp.write_eq ad v)).mono ?_
 rintro e' w1 ⟨rfl, hb⟩
 have h1 := HH.out.below hb
 have d0 := h1.c0
 have d1 := h1.c1
 have d2 := h1.c2
 have d3 := h1.c3
 have d4 := h1.c4
 have d5 := h1.c5
 have d24 := h1.c24
 rw [hck] at d24
 have fz := h1.frozen
 have H1 := ab.mk h1
 have HB := ab.mk hb
 clear h1 hb c0 c1 c2 c3 c4 c5
 go_wp2_with fail
 have hs := HH.out.stored (W := ((((((w1.setCell ⟨a.b, 0, none⟩ (.int .i64 (s.mp.write ad v).k)).setCell ⟨a.b, 1, none⟩ (.bool (s.mp.write ad v).o)).setCell ⟨a.b, 2, none⟩ (.int .u8 (s.mp.write ad v).l)).setCell ⟨a.b, 3, none⟩ (.int .u8 (s.mp.write ad v).h)).setCell ⟨a.b, 4, none⟩ (.int .u8 (s.mp.write ad v).r)).setCell ⟨a.b, 5, none⟩ (.bool (s.mp.write ad v).md))) (s' := { s with mp := s.mp.write ad v }) (by
  have p := (aJ (aJ (aJ (aJ (aJ (aJ H1.out.box 0 (.int .i64 (s.mp.write ad v).k)) 1 (.bool (s.mp.write ad v).o)) 2 (.int .u8 (s.mp.write ad v).l)) 3 (.int .u8 (s.mp.write ad v).h)) 4 (.int .u8 (s.mp.write ad v).r)) 5 (.bool (s.mp.write ad v).md))
  rw [cells_mp] at p
  exact p) (by with_reducible (refine Upto.setB ?_ _ _; refine Upto.setB ?_ _ _; refine Upto.setB ?_ _ _; refine Upto.setB ?_ _ _; refine Upto.setB ?_ _ _; refine Upto.setB ?_ _ _; exact Upto.of_below HB.out)) rfl rfl
 have HS := ab.mk hs
 clear hs
 refine (latch_at HS.out.1 v).mono ?_
 rintro e' w2 ⟨rfl, h2, u2⟩
 have H2 := ab.mk h2
 have U2 := ab.mk u2
 clear h2 u2
 go_wp2
 go_returns
 exact ⟨rfl, H2.out, Upto.trans HS.out.2 U2.out⟩
theorem write_reg {w : World} {a : Ad} {s : Ct} (h : ax w a s) (ad v m : Int) (hlo : ¬ ad < 32768) (hg : s.reg ad = some m) (hm : m > 0) :
  Calls Try.prog 18 #[a.p, .int .u16 ad, .int .u8 v] w fun e w' => e = .returned (.tuple #[]) ∧ ax w' a { s with lv := s.lv.write m v } ∧ Upto a.S w w' := by
 have HH := ab.mk h
 clear h
 have HG := ab.mk hg
 clear hg
 go_enter Try.func18, Try.ntmps18
 go_wp2_with fail
 refine (bI HH.out).mono ?_
 rintro e' w1 ⟨rfl, hw⟩
 replace hw := hw.symm
 subst hw
 go_wp2_with fail
 refine (reg_at HH.out ad m HG.out).mono ?_
 rintro e' w1 ⟨rfl, hb⟩
 have h1 := HH.out.below hb
 have H1 := ab.mk h1
 have HB := ab.mk hb
 clear h1 hb
 have c6 := H1.out.c6
 have c7 := H1.out.c7
 have c8 := H1.out.c8
 have c9 := H1.out.c9
 have c10 := H1.out.c10
 have c11 := H1.out.c11
 go_wp2_with fail
 refine (av.calls _ _ _ _ _ _ _ _ _ _ _ _ _ _ _ _ (s.lv.write_eq m v)).mono ?_
 rintro e' w2 ⟨rfl, hb⟩
 have h2 := H1.out.below hb
 have d6 := h2.c6
 have d7 := h2.c7
 have d8 := h2.c8
 have d9 := h2.c9
 have d10 := h2.c10
 have d11 := h2.c11
 have fz := h2.frozen
 have H2 := ab.mk h2
 have HB2 := ab.mk (ak HB.out hb)
 clear h2 hb c6 c7 c8 c9 c10 c11
 go_wp2
 go_returns
 refine ⟨rfl, HH.out.stored ?_ ?_ rfl rfl⟩
 ·have p := (aJ (aJ (aJ (aJ (aJ (aJ H2.out.box 6 (.int .u8 (s.lv.write m v).s)) 7 (.int .u8 (s.lv.write m v).m)) 8 (.int .u8 (s.lv.write m v).h)) 9 (.int .u16 (s.lv.write m v).d)) 10 (.bool (s.lv.write m v).ht)) 11 (.bool (s.lv.write m v).cy))
  rw [cells_lv] at p
  exact p
 ·with_reducible (refine Upto.setB ?_ _ _; refine Upto.setB ?_ _ _; refine Upto.setB ?_ _ _; refine Upto.setB ?_ _ _; refine Upto.setB ?_ _ _; refine Upto.setB ?_ _ _; exact Upto.of_below HB2.out)
theorem write_ram {w : World} {a : Ad} {s : Ct} (h : ax w a s) (ad v m : Int) (hlo : ¬ ad < 32768) (hg : s.reg ad = some m) (hm : ¬ m > 0) (n : Int) (hat : s.at ad = n) (h0 : n ≥ 0) (hn : n < s.ram.length) :
  Calls Try.prog 18 #[a.p, .int .u16 ad, .int .u8 v] w fun e w' => e = .returned (.tuple #[]) ∧ ax w' a { s with ram := s.ram.set n.toNat v } ∧ Upto a.S w w' := by
 have HH := ab.mk h
 clear h
 have HG := ab.mk hg
 clear hg
 have HA : ab (bP.f s.mp.k s.mp.o s.mp.l s.mp.h s.mp.r s.mp.md ad s.ram.length = some n) := ab.mk ((at_eq s ad).trans (congrArg some hat))
 clear hat
 go_enter Try.func18, Try.ntmps18
 go_wp2_with fail
 refine (bI HH.out).mono ?_
 rintro e' w1 ⟨rfl, hw⟩
 replace hw := hw.symm
 subst hw
 go_wp2_with fail
 refine (reg_at HH.out ad m HG.out).mono ?_
 rintro e' w1 ⟨rfl, hb⟩
 have h1 := HH.out.below hb
 have H1 := ab.mk h1
 have HB := ab.mk hb
 clear h1 hb
 have c0 := H1.out.c0
 have c1 := H1.out.c1
 have c2 := H1.out.c2
 have c3 := H1.out.c3
 have c4 := H1.out.c4
 have c5 := H1.out.c5
 have c30 := H1.out.c30
 go_wp2_with fail
 go_region_with ((go_at_call 36; ((with_reducible refine (bP.calls _ _ _ _ _ _ _ _ _ _ HA.out).mono ?_)); rintro e' w3 ⟨rfl, hb⟩; have HB3 : ab (Below w.heap.size w w3) := ab.mk (ak HB.out (Below.trans (aj (Below.refl _ _)) hb)); have H3 : ab (ax w3 a s) := ab.mk (H1.out.below (Below.trans (aj (Below.refl _ _)) hb)); clear hb))
 all_goals (
  have g30 := H3.out.c30
  have hcell := H3.out.row.cell n.toNat (by omega)
  have hx : ((n.toNat : Nat) : Int) = n := by omega
  rw [hx] at hcell
  have hfz := H3.out.row.frozen n.toNat
  clear hx c0 c1 c2 c3 c4 c5 c30
  go_wp2
  go_returns
  refine ⟨rfl, ⟨?_, ?_, ?_, HH.out.n1, HH.out.n2, HH.out.n3⟩, Upto.set (p := ⟨a.gr, n.toNat, none⟩) (Upto.of_below HB3.out) (Or.inr rfl) _⟩
  ·have p := al H3.out.box (p := ⟨a.gr, n.toNat, none⟩) HH.out.n1 (.int .u8 v)
   rw [show (Ct.cells { s with ram := s.ram.set n.toNat v } a) = s.cells a by simp [Ct.cells]]
   exact p
  ·exact H3.out.image.of_block (Below.heap_setCell _ _ _ _ HH.out.n2)
  ·exact H3.out.row.put n.toNat v)
theorem write_no {w : World} {a : Ad} {s : Ct} (h : ax w a s) (ad v m : Int) (hlo : ¬ ad < 32768) (hg : s.reg ad = some m) (hm : ¬ m > 0) (n : Int) (hat : s.at ad = n) (h0 : ¬ n ≥ 0) :
  Calls Try.prog 18 #[a.p, .int .u16 ad, .int .u8 v] w fun e w' => e = .returned (.tuple #[]) ∧ ax w' a s ∧ Upto a.S w w' := by
 have HH := ab.mk h
 clear h
 have HG := ab.mk hg
 clear hg
 have HA : ab (bP.f s.mp.k s.mp.o s.mp.l s.mp.h s.mp.r s.mp.md ad s.ram.length = some n) := ab.mk ((at_eq s ad).trans (congrArg some hat))
 clear hat
 go_enter Try.func18, Try.ntmps18
 go_wp2_with fail
 refine (bI HH.out).mono ?_
 rintro e' w1 ⟨rfl, hw⟩
 replace hw := hw.symm
 subst hw
 go_wp2_with fail
 refine (reg_at HH.out ad m HG.out).mono ?_
 rintro e' w1 ⟨rfl, hb⟩
 have h1 := HH.out.below hb
 have H1 := ab.mk h1
 have HB := ab.mk hb
 clear h1 hb
 have c0 := H1.out.c0
 have c1 := H1.out.c1
 have c2 := H1.out.c2
 have c3 := H1.out.c3
 have c4 := H1.out.c4
 have c5 := H1.out.c5
 have c30 := H1.out.c30
 go_wp2_with fail
 go_region_with ((go_at_call 36; ((with_reducible refine (bP.calls _ _ _ _ _ _ _ _ _ _ HA.out).mono ?_)); rintro e' w3 ⟨rfl, hb⟩; have HB3 : ab (Below w.heap.size w w3) := ab.mk (ak HB.out (Below.trans (aj (Below.refl _ _)) hb)); have H3 : ab (ax w3 a s) := ab.mk (H1.out.below (Below.trans (aj (Below.refl _ _)) hb)); clear hb))
 all_goals (
  go_wp2
  go_returns
  exact ⟨rfl, H3.out, Upto.of_below HB3.out⟩)
theorem write_nil (ad v : Int) (w : World) :
  Calls Try.prog 18 #[.pointer none, .int .u16 ad, .int .u8 v] w fun e w' => e = .returned (.tuple #[]) ∧ Below w.heap.size w w' := by
 go_enter Try.func18, Try.ntmps18
 go_wp2
 go_returns
 exact ⟨rfl, by go_grown⟩
def bsOf (v0 v1 v2 v3 v4 v5 v6 v7 v8 v9 : Int) : Nat → Array Value
 | 0 => #[.int .u8 0, .int .u8 0, .int .u8 0, .int .u8 0, .int .u8 0, .int .u8 0, .int .u8 0, .int .u8 0, .int .u8 0, .int .u8 0]
 | 1 => #[.int .u8 v0, .int .u8 0, .int .u8 0, .int .u8 0, .int .u8 0, .int .u8 0, .int .u8 0, .int .u8 0, .int .u8 0, .int .u8 0]
 | 2 => #[.int .u8 v0, .int .u8 v1, .int .u8 0, .int .u8 0, .int .u8 0, .int .u8 0, .int .u8 0, .int .u8 0, .int .u8 0, .int .u8 0]
 | 3 => #[.int .u8 v0, .int .u8 v1, .int .u8 v2, .int .u8 0, .int .u8 0, .int .u8 0, .int .u8 0, .int .u8 0, .int .u8 0, .int .u8 0]
 | 4 => #[.int .u8 v0, .int .u8 v1, .int .u8 v2, .int .u8 v3, .int .u8 0, .int .u8 0, .int .u8 0, .int .u8 0, .int .u8 0, .int .u8 0]
 | 5 => #[.int .u8 v0, .int .u8 v1, .int .u8 v2, .int .u8 v3, .int .u8 v4, .int .u8 0, .int .u8 0, .int .u8 0, .int .u8 0, .int .u8 0]
 | 6 => #[.int .u8 v0, .int .u8 v1, .int .u8 v2, .int .u8 v3, .int .u8 v4, .int .u8 v5, .int .u8 0, .int .u8 0, .int .u8 0, .int .u8 0]
 | 7 => #[.int .u8 v0, .int .u8 v1, .int .u8 v2, .int .u8 v3, .int .u8 v4, .int .u8 v5, .int .u8 v6, .int .u8 0, .int .u8 0, .int .u8 0]
 | 8 => #[.int .u8 v0, .int .u8 v1, .int .u8 v2, .int .u8 v3, .int .u8 v4, .int .u8 v5, .int .u8 v6, .int .u8 v7, .int .u8 0, .int .u8 0]
 | 9 => #[.int .u8 v0, .int .u8 v1, .int .u8 v2, .int .u8 v3, .int .u8 v4, .int .u8 v5, .int .u8 v6, .int .u8 v7, .int .u8 v8, .int .u8 0]
 | _ => #[.int .u8 v0, .int .u8 v1, .int .u8 v2, .int .u8 v3, .int .u8 v4, .int .u8 v5, .int .u8 v6, .int .u8 v7, .int .u8 v8, .int .u8 v9]
theorem bytes_calls (a0 a1 a2 a3 : Int) (a4 a5 : Bool) (b0 b1 b2 b3 : Int) (b4 b5 : Bool) (v0 v1 v2 v3 v4 v5 v6 v7 v8 v9 e0 e1 e2 e3 e4 e5 e6 e7 e8 e9 : Int) (h0 : aK.f a0 a1 a2 a3 a4 a5 8 = some (v0, e0)) (h1 : aK.f a0 a1 a2 a3 a4 a5 9 = some (v1, e1)) (h2 : aK.f a0 a1 a2 a3 a4 a5 10 = some (v2, e2)) (h3 : aK.f a0 a1 a2 a3 a4 a5 11 = some (v3, e3)) (h4 : aK.f a0 a1 a2 a3 a4 a5 12 = some (v4, e4)) (h5 : aK.f b0 b1 b2 b3 b4 b5 8 = some (v5, e5)) (h6 : aK.f b0 b1 b2 b3 b4 b5 9 = some (v6, e6)) (h7 : aK.f b0 b1 b2 b3 b4 b5 10 = some (v7, e7)) (h8 : aK.f b0 b1 b2 b3 b4 b5 11 = some (v8, e8)) (h9 : aK.f b0 b1 b2 b3 b4 b5 12 = some (v9, e9)) (w : World) :
  Calls Try.prog 48 #[.agg #[.int .u8 a0, .int .u8 a1, .int .u8 a2, .int .u16 a3, .bool a4, .bool a5], .agg #[.int .u8 b0, .int .u8 b1, .int .u8 b2, .int .u16 b3, .bool b4, .bool b5]] w fun e' w' => w'.heap[(w.heap.size + 1 + 1)]? = some (.cells (bsOf v0 v1 v2 v3 v4 v5 v6 v7 v8 v9 10) 5 (0, 0)) ∧ e' = .returned (.slice (some ⟨(w.heap.size + 1 + 1), 0, none⟩) 10 10) ∧ Below w.heap.size w w' := by
 have mk : ∀ w : World, (Instr.makeSlice 22 (.int .i64 0) (.int .i64 10)).run Try.prog w = .ok (.slice (some ⟨w.heap.size, 0, none⟩) 0 10) (w.alloc (.cells #[.int .u8 0, .int .u8 0, .int .u8 0, .int .u8 0, .int .u8 0, .int .u8 0, .int .u8 0, .int .u8 0, .int .u8 0, .int .u8 0] 5)) := fun _ => by kernel_rfl
 have H0 := ab.mk h0
 have H1 := ab.mk h1
 have H2 := ab.mk h2
 have H3 := ab.mk h3
 have H4 := ab.mk h4
 have H5 := ab.mk h5
 have H6 := ab.mk h6
 have H7 := ab.mk h7
 have H8 := ab.mk h8
 have H9 := ab.mk h9
 clear h0 h1 h2 h3 h4 h5 h6 h7 h8 h9
 have i0 : ∀ (a0 a1 a2 a3 : Int) (a4 a5 : Bool) (b0 b1 b2 b3 : Int) (b4 b5 : Bool) (w : World), (Instr.index 120 (.agg #[.int .u8 a0, .int .u8 a1, .int .u8 a2, .int .u16 a3, .bool a4, .bool a5, .int .u8 b0, .int .u8 b1, .int .u8 b2, .int .u16 b3, .bool b4, .bool b5]) (.int .i64 0)).run Try.prog w = .ok (.agg #[.int .u8 a0, .int .u8 a1, .int .u8 a2, .int .u16 a3, .bool a4, .bool a5]) w := fun _ _ _ _ _ _ _ _ _ _ _ _ _ => by kernel_rfl
 have i1 : ∀ (a0 a1 a2 a3 : Int) (a4 a5 : Bool) (b0 b1 b2 b3 : Int) (b4 b5 : Bool) (w : World), (Instr.index 120 (.agg #[.int .u8 a0, .int .u8 a1, .int .u8 a2, .int .u16 a3, .bool a4, .bool a5, .int .u8 b0, .int .u8 b1, .int .u8 b2, .int .u16 b3, .bool b4, .bool b5]) (.int .i64 1)).run Try.prog w = .ok (.agg #[.int .u8 b0, .int .u8 b1, .int .u8 b2, .int .u16 b3, .bool b4, .bool b5]) w := fun _ _ _ _ _ _ _ _ _ _ _ _ _ => by kernel_rfl
 go_enter Try.func48, Try.ntmps48
 go_wp2_with fail
 have s1 : (w.alloc (.cells #[.int .u8 a0, .int .u8 a1, .int .u8 a2, .int .u16 a3, .bool a4, .bool a5] 34)).heap.size = w.heap.size + 1 := by simp
 have s2 : ((w.alloc (.cells #[.int .u8 a0, .int .u8 a1, .int .u8 a2, .int .u16 a3, .bool a4, .bool a5] 34)).alloc (.cells #[.int .u8 b0, .int .u8 b1, .int .u8 b2, .int .u16 b3, .bool b4, .bool b5] 34)).heap.size = w.heap.size + 1 + 1 := by simp
 have qB := heap_alloc_new ((w.alloc (.cells #[.int .u8 a0, .int .u8 a1, .int .u8 a2, .int .u16 a3, .bool a4, .bool a5] 34)).alloc (.cells #[.int .u8 b0, .int .u8 b1, .int .u8 b2, .int .u16 b3, .bool b4, .bool b5] 34)) (.cells (bsOf v0 v1 v2 v3 v4 v5 v6 v7 v8 v9 0) 5)
 rw [s2] at qB
 have qH := ac (ac (ac (Below.refl w.heap.size w) (.cells #[.int .u8 a0, .int .u8 a1, .int .u8 a2, .int .u16 a3, .bool a4, .bool a5] 34)) (.cells #[.int .u8 b0, .int .u8 b1, .int .u8 b2, .int .u16 b3, .bool b4, .bool b5] 34)) (.cells (bsOf v0 v1 v2 v3 v4 v5 v6 v7 v8 v9 0) 5)
 change Code.wp _ _ _ _ (((w.alloc (.cells #[.int .u8 a0, .int .u8 a1, .int .u8 a2, .int .u16 a3, .bool a4, .bool a5] 34)).alloc (.cells #[.int .u8 b0, .int .u8 b1, .int .u8 b2, .int .u16 b3, .bool b4, .bool b5] 34)).alloc (.cells (bsOf v0 v1 v2 v3 v4 v5 v6 v7 v8 v9 0) 5))
 have s3 : (((w.alloc (.cells #[.int .u8 a0, .int .u8 a1, .int .u8 a2, .int .u16 a3, .bool a4, .bool a5] 34)).alloc (.cells #[.int .u8 b0, .int .u8 b1, .int .u8 b2, .int .u16 b3, .bool b4, .bool b5] 34)).alloc (.cells (bsOf v0 v1 v2 v3 v4 v5 v6 v7 v8 v9 0) 5)).heap.size = w.heap.size + 1 + 1 + 1 := by simp
 generalize ((w.alloc (.cells #[.int .u8 a0, .int .u8 a1, .int .u8 a2, .int .u16 a3, .bool a4, .bool a5] 34)).alloc (.cells #[.int .u8 b0, .int .u8 b1, .int .u8 b2, .int .u16 b3, .bool b4, .bool b5] 34)).alloc (.cells (bsOf v0 v1 v2 v3 v4 v5 v6 v7 v8 v9 0) 5) = W0 at qB qH s3 ⊢
 clear s1 s2
 have Q1 := ab.mk qB
 have Q2 := ab.mk qH
 clear qB qH
 refine wp_loop_rounds 3 ?_
 rw [rounds_succ]
 go_wp2_with fail
 have pB0 := ah Q1.out (.cells #[.int .u8 a0, .int .u8 a1, .int .u8 a2, .int .u16 a3, .bool a4, .bool a5] 34)
 have pC0 := heap_alloc_new W0 (.cells #[.int .u8 a0, .int .u8 a1, .int .u8 a2, .int .u16 a3, .bool a4, .bool a5] 34)
 rw [s3] at pC0
 have pH0 := ac Q2.out (.cells #[.int .u8 a0, .int .u8 a1, .int .u8 a2, .int .u16 a3, .bool a4, .bool a5] 34)
 go_loopw [5, 8] (fun s i w' => ∃ (j : Nat), s = .slice (some ⟨(w.heap.size + 1 + 1), 0, none⟩) (0 + j) 10 ∧ i = .int .i64 (8 + j) ∧ ab (j ≤ 5 ∧ w'.heap[(w.heap.size + 1 + 1)]? = some (.cells (bsOf v0 v1 v2 v3 v4 v5 v6 v7 v8 v9 (0 + j)) 5 (0, 0)) ∧ w'.heap[(w.heap.size + 1 + 1 + 1)]? = some (.cells #[.int .u8 a0, .int .u8 a1, .int .u8 a2, .int .u16 a3, .bool a4, .bool a5] 34 (0, 0)) ∧ Below w.heap.size w w')) (fun _ i _ => 20 - (intOf i).toNat)
 case atStart => exact ⟨0, rfl, rfl, ab.mk ⟨by omega, pB0, pC0, pH0⟩⟩
 case round =>
  obtain ⟨j, rfl, rfl, HA⟩ := hrel
  obtain ⟨hj, bb, bc, hb⟩ := HA.out
  clear HA
  have BB := ab.mk bb
  have BC := ab.mk bc
  have HB := ab.mk hb
  clear bb bc hb
  have hsz : (w.heap.size + 1 + 1) < wr.heap.size := aZ BB.out
  have hgc : (w.heap.size + 1 + 1 + 1) ≠ (w.heap.size + 1 + 1) := by omega
  have hj6 : j = 0 ∨ j = 1 ∨ j = 2 ∨ j = 3 ∨ j = 4 ∨ j = 5 := by omega
  clear hj
  have c0 : wr.cell? ⟨(w.heap.size + 1 + 1 + 1), 0, none⟩ = some (.int .u8 a0) := (aa BC.out 0).trans rfl
  have c1 : wr.cell? ⟨(w.heap.size + 1 + 1 + 1), 1, none⟩ = some (.int .u8 a1) := (aa BC.out 1).trans rfl
  have c2 : wr.cell? ⟨(w.heap.size + 1 + 1 + 1), 2, none⟩ = some (.int .u8 a2) := (aa BC.out 2).trans rfl
  have c3 : wr.cell? ⟨(w.heap.size + 1 + 1 + 1), 3, none⟩ = some (.int .u16 a3) := (aa BC.out 3).trans rfl
  have c4 : wr.cell? ⟨(w.heap.size + 1 + 1 + 1), 4, none⟩ = some (.bool a4) := (aa BC.out 4).trans rfl
  have c5 : wr.cell? ⟨(w.heap.size + 1 + 1 + 1), 5, none⟩ = some (.bool a5) := (aa BC.out 5).trans rfl
  rcases hj6 with rfl | rfl | rfl | rfl | rfl | rfl
  ·go_wp2_with (first | (go_at_call 35; ((with_reducible refine (aK.calls a0 a1 a2 a3 a4 a5 8 v0 e0 _ H0.out).mono ?_)); rintro e' w2 ⟨rfl, hb⟩; have n0 := ab.mk (af BB.out hb); have n1 := ab.mk (af BC.out hb); have n2 := ab.mk (ak HB.out hb); clear hb; have d0 : ∀ o, (w2.alloc o).cell? ⟨(w.heap.size + 1 + 1), 0, none⟩ = some (.int .u8 0) := fun o => (aa (ah n0.out o) 0).trans rfl; have d1 : ∀ o, (w2.alloc o).cell? ⟨(w.heap.size + 1 + 1), 1, none⟩ = some (.int .u8 0) := fun o => (aa (ah n0.out o) 1).trans rfl; have d2 : ∀ o, (w2.alloc o).cell? ⟨(w.heap.size + 1 + 1), 2, none⟩ = some (.int .u8 0) := fun o => (aa (ah n0.out o) 2).trans rfl; have d3 : ∀ o, (w2.alloc o).cell? ⟨(w.heap.size + 1 + 1), 3, none⟩ = some (.int .u8 0) := fun o => (aa (ah n0.out o) 3).trans rfl; have d4 : ∀ o, (w2.alloc o).cell? ⟨(w.heap.size + 1 + 1), 4, none⟩ = some (.int .u8 0) := fun o => (aa (ah n0.out o) 4).trans rfl; have d5 : ∀ o, (w2.alloc o).cell? ⟨(w.heap.size + 1 + 1), 5, none⟩ = some (.int .u8 0) := fun o => (aa (ah n0.out o) 5).trans rfl; have d6 : ∀ o, (w2.alloc o).cell? ⟨(w.heap.size + 1 + 1), 6, none⟩ = some (.int .u8 0) := fun o => (aa (ah n0.out o) 6).trans rfl; have d7 : ∀ o, (w2.alloc o).cell? ⟨(w.heap.size + 1 + 1), 7, none⟩ = some (.int .u8 0) := fun o => (aa (ah n0.out o) 7).trans rfl; have d8 : ∀ o, (w2.alloc o).cell? ⟨(w.heap.size + 1 + 1), 8, none⟩ = some (.int .u8 0) := fun o => (aa (ah n0.out o) 8).trans rfl; have d9 : ∀ o, (w2.alloc o).cell? ⟨(w.heap.size + 1 + 1), 9, none⟩ = some (.int .u8 0) := fun o => (aa (ah n0.out o) 9).trans rfl; have fz : ∀ o i, (w2.alloc o).frozen? ⟨(w.heap.size + 1 + 1), i, none⟩ = false := fun o i => ae (ah n0.out o) i; have hq : ¬ (w.heap.size + 1 + 1) = w2.heap.size := Nat.ne_of_lt (aZ n0.out)))
   refine ⟨⟨1, rfl, rfl, ab.mk ⟨by omega, an (ah n0.out _) 0 _ rfl, al (ah n1.out _) hgc _, ag (ac n2.out _) (by omega)⟩⟩, by simp [intOf]⟩
  ·go_wp2_with (first | (go_at_call 35; ((with_reducible refine (aK.calls a0 a1 a2 a3 a4 a5 9 v1 e1 _ H1.out).mono ?_)); rintro e' w2 ⟨rfl, hb⟩; have n0 := ab.mk (af BB.out hb); have n1 := ab.mk (af BC.out hb); have n2 := ab.mk (ak HB.out hb); clear hb; have d0 : ∀ o, (w2.alloc o).cell? ⟨(w.heap.size + 1 + 1), 0, none⟩ = some (.int .u8 v0) := fun o => (aa (ah n0.out o) 0).trans rfl; have d1 : ∀ o, (w2.alloc o).cell? ⟨(w.heap.size + 1 + 1), 1, none⟩ = some (.int .u8 0) := fun o => (aa (ah n0.out o) 1).trans rfl; have d2 : ∀ o, (w2.alloc o).cell? ⟨(w.heap.size + 1 + 1), 2, none⟩ = some (.int .u8 0) := fun o => (aa (ah n0.out o) 2).trans rfl; have d3 : ∀ o, (w2.alloc o).cell? ⟨(w.heap.size + 1 + 1), 3, none⟩ = some (.int .u8 0) := fun o => (aa (ah n0.out o) 3).trans rfl; have d4 : ∀ o, (w2.alloc o).cell? ⟨(w.heap.size + 1 + 1), 4, none⟩ = some (.int .u8 0) := fun o => (aa (ah n0.out o) 4).trans rfl; have d5 : ∀ o, (w2.alloc o).cell? ⟨(w.heap.size + 1 + 1), 5, none⟩ = some (.int .u8 0) := fun o => (aa (ah n0.out o) 5).trans rfl; have d6 : ∀ o, (w2.alloc o).cell? ⟨(w.heap.size + 1 + 1), 6, none⟩ = some (.int .u8 0) := fun o => (aa (ah n0.out o) 6).trans rfl; have d7 : ∀ o, (w2.alloc o).cell? ⟨(w.heap.size + 1 + 1), 7, none⟩ = some (.int .u8 0) := fun o => (aa (ah n0.out o) 7).trans rfl; have d8 : ∀ o, (w2.alloc o).cell? ⟨(w.heap.size + 1 + 1), 8, none⟩ = some (.int .u8 0) := fun o => (aa (ah n0.out o) 8).trans rfl; have d9 : ∀ o, (w2.alloc o).cell? ⟨(w.heap.size + 1 + 1), 9, none⟩ = some (.int .u8 0) := fun o => (aa (ah n0.out o) 9).trans rfl; have fz : ∀ o i, (w2.alloc o).frozen? ⟨(w.heap.size + 1 + 1), i, none⟩ = false := fun o i => ae (ah n0.out o) i; have hq : ¬ (w.heap.size + 1 + 1) = w2.heap.size := Nat.ne_of_lt (aZ n0.out)))
   refine ⟨⟨2, rfl, rfl, ab.mk ⟨by omega, an (ah n0.out _) 1 _ rfl, al (ah n1.out _) hgc _, ag (ac n2.out _) (by omega)⟩⟩, by simp [intOf]⟩
  ·go_wp2_with (first | (go_at_call 35; ((with_reducible refine (aK.calls a0 a1 a2 a3 a4 a5 10 v2 e2 _ H2.out).mono ?_)); rintro e' w2 ⟨rfl, hb⟩; have n0 := ab.mk (af BB.out hb); have n1 := ab.mk (af BC.out hb); have n2 := ab.mk (ak HB.out hb); clear hb; have d0 : ∀ o, (w2.alloc o).cell? ⟨(w.heap.size + 1 + 1), 0, none⟩ = some (.int .u8 v0) := fun o => (aa (ah n0.out o) 0).trans rfl; have d1 : ∀ o, (w2.alloc o).cell? ⟨(w.heap.size + 1 + 1), 1, none⟩ = some (.int .u8 v1) := fun o => (aa (ah n0.out o) 1).trans rfl; have d2 : ∀ o, (w2.alloc o).cell? ⟨(w.heap.size + 1 + 1), 2, none⟩ = some (.int .u8 0) := fun o => (aa (ah n0.out o) 2).trans rfl; have d3 : ∀ o, (w2.alloc o).cell? ⟨(w.heap.size + 1 + 1), 3, none⟩ = some (.int .u8 0) := fun o => (aa (ah n0.out o) 3).trans rfl; have d4 : ∀ o, (w2.alloc o).cell? ⟨(w.heap.size + 1 + 1), 4, none⟩ = some (.int .u8 0) := fun o => (aa (ah n0.out o) 4).trans rfl; have d5 : ∀ o, (w2.alloc o).cell? ⟨(w.heap.size + 1 + 1), 5, none⟩ = some (.int .u8 0) := fun o => (aa (ah n0.out o) 5).trans rfl; have d6 : ∀ o, (w2.alloc o).cell? ⟨(w.heap.size + 1 + 1), 6, none⟩ = some (.int .u8 0) := fun o => (aa (ah n0.out o) 6).trans rfl; have d7 : ∀ o, (w2.alloc o).cell? ⟨(w.heap.size + 1 + 1), 7, none⟩ = some (.int .u8 0) := fun o => (aa (ah n0.out o) 7).trans rfl; have d8 : ∀ o, (w2.alloc o).cell? ⟨(w.heap.size + 1 + 1), 8, none⟩ = some (.int .u8 0) := fun o => (aa (ah n0.out o) 8).trans rfl; have d9 : ∀ o, (w2.alloc o).cell? ⟨(w.heap.size + 1 + 1), 9, none⟩ = some (.int .u8 0) := fun o => (aa (ah n0.out o) 9).trans rfl; have fz : ∀ o i, (w2.alloc o).frozen? ⟨(w.heap.size + 1 + 1), i, none⟩ = false := fun o i => ae (ah n0.out o) i; have hq : ¬ (w.heap.size + 1 + 1) = w2.heap.size := Nat.ne_of_lt (aZ n0.out)))
   refine ⟨⟨3, rfl, rfl, ab.mk ⟨by omega, an (ah n0.out _) 2 _ rfl, al (ah n1.out _) hgc _, ag (ac n2.out _) (by omega)⟩⟩, by simp [intOf]⟩
  ·go_wp2_with (first | (go_at_call 35; ((with_reducible refine (aK.calls a0 a1 a2 a3 a4 a5 11 v3 e3 _ H3.out).mono ?_)); rintro e' w2 ⟨rfl, hb⟩; have n0 := ab.mk (af BB.out hb); have n1 := ab.mk (af BC.out hb); have n2 := ab.mk (ak HB.out hb); clear hb; have d0 : ∀ o, (w2.alloc o).cell? ⟨(w.heap.size + 1 + 1), 0, none⟩ = some (.int .u8 v0) := fun o => (aa (ah n0.out o) 0).trans rfl; have d1 : ∀ o, (w2.alloc o).cell? ⟨(w.heap.size + 1 + 1), 1, none⟩ = some (.int .u8 v1) := fun o => (aa (ah n0.out o) 1).trans rfl; have d2 : ∀ o, (w2.alloc o).cell? ⟨(w.heap.size + 1 + 1), 2, none⟩ = some (.int .u8 v2) := fun o => (aa (ah n0.out o) 2).trans rfl; have d3 : ∀ o, (w2.alloc o).cell? ⟨(w.heap.size + 1 + 1), 3, none⟩ = some (.int .u8 0) := fun o => (aa (ah n0.out o) 3).trans rfl; have d4 : ∀ o, (w2.alloc o).cell? ⟨(w.heap.size + 1 + 1), 4, none⟩ = some (.int .u8 0) := fun o => (aa (ah n0.out o) 4).trans rfl; have d5 : ∀ o, (w2.alloc o).cell? ⟨(w.heap.size + 1 + 1), 5, none⟩ = some (.int .u8 0) := fun o => (aa (ah n0.out o) 5).trans rfl; have d6 : ∀ o, (w2.alloc o).cell? ⟨(w.heap.size + 1 + 1), 6, none⟩ = some (.int .u8 0) := fun o => (aa (ah n0.out o) 6).trans rfl; have d7 : ∀ o, (w2.alloc o).cell? ⟨(w.heap.size + 1 + 1), 7, none⟩ = some (.int .u8 0) := fun o => (aa (ah n0.out o) 7).trans rfl; have d8 : ∀ o, (w2.alloc o).cell? ⟨(w.heap.size + 1 + 1), 8, none⟩ = some (.int .u8 0) := fun o => (aa (ah n0.out o) 8).trans rfl; have d9 : ∀ o, (w2.alloc o).cell? ⟨(w.heap.size + 1 + 1), 9, none⟩ = some (.int .u8 0) := fun o => (aa (ah n0.out o) 9).trans rfl; have fz : ∀ o i, (w2.alloc o).frozen? ⟨(w.heap.size + 1 + 1), i, none⟩ = false := fun o i => ae (ah n0.out o) i; have hq : ¬ (w.heap.size + 1 + 1) = w2.heap.size := Nat.ne_of_lt (aZ n0.out)))
   refine ⟨⟨4, rfl, rfl, ab.mk ⟨by omega, an (ah n0.out _) 3 _ rfl, al (ah n1.out _) hgc _, ag (ac n2.out _) (by omega)⟩⟩, by simp [intOf]⟩
  ·go_wp2_with (first | (go_at_call 35; ((with_reducible refine (aK.calls a0 a1 a2 a3 a4 a5 12 v4 e4 _ H4.out).mono ?_)); rintro e' w2 ⟨rfl, hb⟩; have n0 := ab.mk (af BB.out hb); have n1 := ab.mk (af BC.out hb); have n2 := ab.mk (ak HB.out hb); clear hb; have d0 : ∀ o, (w2.alloc o).cell? ⟨(w.heap.size + 1 + 1), 0, none⟩ = some (.int .u8 v0) := fun o => (aa (ah n0.out o) 0).trans rfl; have d1 : ∀ o, (w2.alloc o).cell? ⟨(w.heap.size + 1 + 1), 1, none⟩ = some (.int .u8 v1) := fun o => (aa (ah n0.out o) 1).trans rfl; have d2 : ∀ o, (w2.alloc o).cell? ⟨(w.heap.size + 1 + 1), 2, none⟩ = some (.int .u8 v2) := fun o => (aa (ah n0.out o) 2).trans rfl; have d3 : ∀ o, (w2.alloc o).cell? ⟨(w.heap.size + 1 + 1), 3, none⟩ = some (.int .u8 v3) := fun o => (aa (ah n0.out o) 3).trans rfl; have d4 : ∀ o, (w2.alloc o).cell? ⟨(w.heap.size + 1 + 1), 4, none⟩ = some (.int .u8 0) := fun o => (aa (ah n0.out o) 4).trans rfl; have d5 : ∀ o, (w2.alloc o).cell? ⟨(w.heap.size + 1 + 1), 5, none⟩ = some (.int .u8 0) := fun o => (aa (ah n0.out o) 5).trans rfl; have d6 : ∀ o, (w2.alloc o).cell? ⟨(w.heap.size + 1 + 1), 6, none⟩ = some (.int .u8 0) := fun o => (aa (ah n0.out o) 6).trans rfl; have d7 : ∀ o, (w2.alloc o).cell? ⟨(w.heap.size + 1 + 1), 7, none⟩ = some (.int .u8 0) := fun o => (aa (ah n0.out o) 7).trans rfl; have d8 : ∀ o, (w2.alloc o).cell? ⟨(w.heap.size + 1 + 1), 8, none⟩ = some (.int .u8 0) := fun o => (aa (ah n0.out o) 8).trans rfl; have d9 : ∀ o, (w2.alloc o).cell? ⟨(w.heap.size + 1 + 1), 9, none⟩ = some (.int .u8 0) := fun o => (aa (ah n0.out o) 9).trans rfl; have fz : ∀ o i, (w2.alloc o).frozen? ⟨(w.heap.size + 1 + 1), i, none⟩ = false := fun o i => ae (ah n0.out o) i; have hq : ¬ (w.heap.size + 1 + 1) = w2.heap.size := Nat.ne_of_lt (aZ n0.out)))
   refine ⟨⟨5, rfl, rfl, ab.mk ⟨by omega, an (ah n0.out _) 4 _ rfl, al (ah n1.out _) hgc _, ag (ac n2.out _) (by omega)⟩⟩, by simp [intOf]⟩
  ·clear c0 c1 c2 c3 c4 c5
   generalize wr = W1 at *
   go_wp2_with fail
   rw [rounds_succ]
   go_wp2_with fail
   have pB5 := ah BB.out (.cells #[.int .u8 b0, .int .u8 b1, .int .u8 b2, .int .u16 b3, .bool b4, .bool b5] 34)
   have pC5 := aC W1 (.cells #[.int .u8 b0, .int .u8 b1, .int .u8 b2, .int .u16 b3, .bool b4, .bool b5] 34)
   have pH5 := ac HB.out (.cells #[.int .u8 b0, .int .u8 b1, .int .u8 b2, .int .u16 b3, .bool b4, .bool b5] 34)
   have HSZ := ab.mk hsz
   clear hsz hgc BB BC HB
   go_loopw [5, 8] (fun s i w' => ∃ (j : Nat), s = .slice (some ⟨(w.heap.size + 1 + 1), 0, none⟩) (5 + j) 10 ∧ i = .int .i64 (8 + j) ∧ ab (j ≤ 5 ∧ w'.heap[(w.heap.size + 1 + 1)]? = some (.cells (bsOf v0 v1 v2 v3 v4 v5 v6 v7 v8 v9 (5 + j)) 5 (0, 0)) ∧ w'.heap[W1.heap.size]? = some (.cells #[.int .u8 b0, .int .u8 b1, .int .u8 b2, .int .u16 b3, .bool b4, .bool b5] 34 (0, 0)) ∧ Below w.heap.size w w')) (fun _ i _ => 20 - (intOf i).toNat)
   case atStart => exact ⟨0, rfl, rfl, ab.mk ⟨by omega, pB5, pC5, pH5⟩⟩
   case round =>
    obtain ⟨j, rfl, rfl, HA⟩ := hrel
    obtain ⟨hj, bb, bc, hb⟩ := HA.out
    clear HA
    have BB := ab.mk bb
    have BC := ab.mk bc
    have HB := ab.mk hb
    clear bb bc hb
    have hsz : (w.heap.size + 1 + 1) < wr.heap.size := aZ BB.out
    have hgc : W1.heap.size ≠ (w.heap.size + 1 + 1) := by have := HSZ.out; omega
    have hj6 : j = 0 ∨ j = 1 ∨ j = 2 ∨ j = 3 ∨ j = 4 ∨ j = 5 := by omega
    clear hj
    have c0 : wr.cell? ⟨W1.heap.size, 0, none⟩ = some (.int .u8 b0) := (aa BC.out 0).trans rfl
    have c1 : wr.cell? ⟨W1.heap.size, 1, none⟩ = some (.int .u8 b1) := (aa BC.out 1).trans rfl
    have c2 : wr.cell? ⟨W1.heap.size, 2, none⟩ = some (.int .u8 b2) := (aa BC.out 2).trans rfl
    have c3 : wr.cell? ⟨W1.heap.size, 3, none⟩ = some (.int .u16 b3) := (aa BC.out 3).trans rfl
    have c4 : wr.cell? ⟨W1.heap.size, 4, none⟩ = some (.bool b4) := (aa BC.out 4).trans rfl
    have c5 : wr.cell? ⟨W1.heap.size, 5, none⟩ = some (.bool b5) := (aa BC.out 5).trans rfl
    rcases hj6 with rfl | rfl | rfl | rfl | rfl | rfl
    ·go_wp2_with (first | (go_at_call 35; ((with_reducible refine (aK.calls b0 b1 b2 b3 b4 b5 8 v5 e5 _ H5.out).mono ?_)); rintro e' w2 ⟨rfl, hb⟩; have n0 := ab.mk (af BB.out hb); have n1 := ab.mk (af BC.out hb); have n2 := ab.mk (ak HB.out hb); clear hb; have d0 : ∀ o, (w2.alloc o).cell? ⟨(w.heap.size + 1 + 1), 0, none⟩ = some (.int .u8 v0) := fun o => (aa (ah n0.out o) 0).trans rfl; have d1 : ∀ o, (w2.alloc o).cell? ⟨(w.heap.size + 1 + 1), 1, none⟩ = some (.int .u8 v1) := fun o => (aa (ah n0.out o) 1).trans rfl; have d2 : ∀ o, (w2.alloc o).cell? ⟨(w.heap.size + 1 + 1), 2, none⟩ = some (.int .u8 v2) := fun o => (aa (ah n0.out o) 2).trans rfl; have d3 : ∀ o, (w2.alloc o).cell? ⟨(w.heap.size + 1 + 1), 3, none⟩ = some (.int .u8 v3) := fun o => (aa (ah n0.out o) 3).trans rfl; have d4 : ∀ o, (w2.alloc o).cell? ⟨(w.heap.size + 1 + 1), 4, none⟩ = some (.int .u8 v4) := fun o => (aa (ah n0.out o) 4).trans rfl; have d5 : ∀ o, (w2.alloc o).cell? ⟨(w.heap.size + 1 + 1), 5, none⟩ = some (.int .u8 0) := fun o => (aa (ah n0.out o) 5).trans rfl; have d6 : ∀ o, (w2.alloc o).cell? ⟨(w.heap.size + 1 + 1), 6, none⟩ = some (.int .u8 0) := fun o => (aa (ah n0.out o) 6).trans rfl; have d7 : ∀ o, (w2.alloc o).cell? ⟨(w.heap.size + 1 + 1), 7, none⟩ = some (.int .u8 0) := fun o => (aa (ah n0.out o) 7).trans rfl; have d8 : ∀ o, (w2.alloc o).cell? ⟨(w.heap.size + 1 + 1), 8, none⟩ = some (.int .u8 0) := fun o => (aa (ah n0.out o) 8).trans rfl; have d9 : ∀ o, (w2.alloc o).cell? ⟨(w.heap.size + 1 + 1), 9, none⟩ = some (.int .u8 0) := fun o => (aa (ah n0.out o) 9).trans rfl; have fz : ∀ o i, (w2.alloc o).frozen? ⟨(w.heap.size + 1 + 1), i, none⟩ = false := fun o i => ae (ah n0.out o) i; have hq : ¬ (w.heap.size + 1 + 1) = w2.heap.size := Nat.ne_of_lt (aZ n0.out)))
     refine ⟨⟨1, rfl, rfl, ab.mk ⟨by omega, an (ah n0.out _) 5 _ rfl, al (ah n1.out _) hgc _, ag (ac n2.out _) (by omega)⟩⟩, by simp [intOf]⟩
    ·go_wp2_with (first | (go_at_call 35; ((with_reducible refine (aK.calls b0 b1 b2 b3 b4 b5 9 v6 e6 _ H6.out).mono ?_)); rintro e' w2 ⟨rfl, hb⟩; have n0 := ab.mk (af BB.out hb); have n1 := ab.mk (af BC.out hb); have n2 := ab.mk (ak HB.out hb); clear hb; have d0 : ∀ o, (w2.alloc o).cell? ⟨(w.heap.size + 1 + 1), 0, none⟩ = some (.int .u8 v0) := fun o => (aa (ah n0.out o) 0).trans rfl; have d1 : ∀ o, (w2.alloc o).cell? ⟨(w.heap.size + 1 + 1), 1, none⟩ = some (.int .u8 v1) := fun o => (aa (ah n0.out o) 1).trans rfl; have d2 : ∀ o, (w2.alloc o).cell? ⟨(w.heap.size + 1 + 1), 2, none⟩ = some (.int .u8 v2) := fun o => (aa (ah n0.out o) 2).trans rfl; have d3 : ∀ o, (w2.alloc o).cell? ⟨(w.heap.size + 1 + 1), 3, none⟩ = some (.int .u8 v3) := fun o => (aa (ah n0.out o) 3).trans rfl; have d4 : ∀ o, (w2.alloc o).cell? ⟨(w.heap.size + 1 + 1), 4, none⟩ = some (.int .u8 v4) := fun o => (aa (ah n0.out o) 4).trans rfl; have d5 : ∀ o, (w2.alloc o).cell? ⟨(w.heap.size + 1 + 1), 5, none⟩ = some (.int .u8 v5) := fun o => (aa (ah n0.out o) 5).trans rfl; have d6 : ∀ o, (w2.alloc o).cell? ⟨(w.heap.size + 1 + 1), 6, none⟩ = some (.int .u8 0) := fun o => (aa (ah n0.out o) 6).trans rfl; have d7 : ∀ o, (w2.alloc o).cell? ⟨(w.heap.size + 1 + 1), 7, none⟩ = some (.int .u8 0) := fun o => (aa (ah n0.out o) 7).trans rfl; have d8 : ∀ o, (w2.alloc o).cell? ⟨(w.heap.size + 1 + 1), 8, none⟩ = some (.int .u8 0) := fun o => (aa (ah n0.out o) 8).trans rfl; have d9 : ∀ o, (w2.alloc o).cell? ⟨(w.heap.size + 1 + 1), 9, none⟩ = some (.int .u8 0) := fun o => (aa (ah n0.out o) 9).trans rfl; have fz : ∀ o i, (w2.alloc o).frozen? ⟨(w.heap.size + 1 + 1), i, none⟩ = false := fun o i => ae (ah n0.out o) i; have hq : ¬ (w.heap.size + 1 + 1) = w2.heap.size := Nat.ne_of_lt (aZ n0.out)))
     refine ⟨⟨2, rfl, rfl, ab.mk ⟨by omega, an (ah n0.out _) 6 _ rfl, al (ah n1.out _) hgc _, ag (ac n2.out _) (by omega)⟩⟩, by simp [intOf]⟩
    ·go_wp2_with (first | (go_at_call 35; ((with_reducible refine (aK.calls b0 b1 b2 b3 b4 b5 10 v7 e7 _ H7.out).mono ?_)); rintro e' w2 ⟨rfl, hb⟩; have n0 := ab.mk (af BB.out hb); have n1 := ab.mk (af BC.out hb); have n2 := ab.mk (ak HB.out hb); clear hb; have d0 : ∀ o, (w2.alloc o).cell? ⟨(w.heap.size + 1 + 1), 0, none⟩ = some (.int .u8 v0) := fun o => (aa (ah n0.out o) 0).trans rfl; have d1 : ∀ o, (w2.alloc o).cell? ⟨(w.heap.size + 1 + 1), 1, none⟩ = some (.int .u8 v1) := fun o => (aa (ah n0.out o) 1).trans rfl; have d2 : ∀ o, (w2.alloc o).cell? ⟨(w.heap.size + 1 + 1), 2, none⟩ = some (.int .u8 v2) := fun o => (aa (ah n0.out o) 2).trans rfl; have d3 : ∀ o, (w2.alloc o).cell? ⟨(w.heap.size + 1 + 1), 3, none⟩ = some (.int .u8 v3) := fun o => (aa (ah n0.out o) 3).trans rfl; have d4 : ∀ o, (w2.alloc o).cell? ⟨(w.heap.size + 1 + 1), 4, none⟩ = some (.int .u8 v4) := fun o => (aa (ah n0.out o) 4).trans rfl; have d5 : ∀ o, (w2.alloc o).cell? ⟨(w.heap.size + 1 + 1), 5, none⟩ = some (.int .u8 v5) := fun o => (aa (ah n0.out o) 5).trans rfl; have d6 : ∀ o, (w2.alloc o).cell? ⟨(w.heap.size + 1 + 1), 6, none⟩ = some (.int .u8 v6) := fun o => (aa (ah n0.out o) 6).trans rfl; have d7 : ∀ o, (w2.alloc o).cell? ⟨(w.heap.size + 1 + 1), 7, none⟩ = some (.int .u8 0) := fun o => (aa (ah n0.out o) 7).trans rfl; have d8 : ∀ o, (w2.alloc o).cell? ⟨(w.heap.size + 1 + 1), 8, none⟩ = some (.int .u8 0) := fun o => (aa (ah n0.out o) 8).trans rfl; have d9 : ∀ o, (w2.alloc o).cell? ⟨(w.heap.size + 1 + 1), 9, none⟩ = some (.int .u8 0) := fun o => (aa (ah n0.out o) 9).trans rfl; have fz : ∀ o i, (w2.alloc o).frozen? ⟨(w.heap.size + 1 + 1), i, none⟩ = false := fun o i => ae (ah n0.out o) i; have hq : ¬ (w.heap.size + 1 + 1) = w2.heap.size := Nat.ne_of_lt (aZ n0.out)))
     refine ⟨⟨3, rfl, rfl, ab.mk ⟨by omega, an (ah n0.out _) 7 _ rfl, al (ah n1.out _) hgc _, ag (ac n2.out _) (by omega)⟩⟩, by simp [intOf]⟩
    ·go_wp2_with (first | (go_at_call 35; ((with_reducible refine (aK.calls b0 b1 b2 b3 b4 b5 11 v8 e8 _ H8.out).mono ?_)); rintro e' w2 ⟨rfl, hb⟩; have n0 := ab.mk (af BB.out hb); have n1 := ab.mk (af BC.out hb); have n2 := ab.mk (ak HB.out hb); clear hb; have d0 : ∀ o, (w2.alloc o).cell? ⟨(w.heap.size + 1 + 1), 0, none⟩ = some (.int .u8 v0) := fun o => (aa (ah n0.out o) 0).trans rfl; have d1 : ∀ o, (w2.alloc o).cell? ⟨(w.heap.size + 1 + 1), 1, none⟩ = some (.int .u8 v1) := fun o => (aa (ah n0.out o) 1).trans rfl; have d2 : ∀ o, (w2.alloc o).cell? ⟨(w.heap.size + 1 + 1), 2, none⟩ = some (.int .u8 v2) := fun o => (aa (ah n0.out o) 2).trans rfl; have d3 : ∀ o, (w2.alloc o).cell? ⟨(w.heap.size + 1 + 1), 3, none⟩ = some (.int .u8 v3) := fun o => (aa (ah n0.out o) 3).trans rfl; have d4 : ∀ o, (w2.alloc o).cell? ⟨(w.heap.size + 1 + 1), 4, none⟩ = some (.int .u8 v4) := fun o => (aa (ah n0.out o) 4).trans rfl; have d5 : ∀ o, (w2.alloc o).cell? ⟨(w.heap.size + 1 + 1), 5, none⟩ = some (.int .u8 v5) := fun o => (aa (ah n0.out o) 5).trans rfl; have d6 : ∀ o, (w2.alloc o).cell? ⟨(w.heap.size + 1 + 1), 6, none⟩ = some (.int .u8 v6) := fun o => (aa (ah n0.out o) 6).trans rfl; have d7 : ∀ o, (w2.alloc o).cell? ⟨(w.heap.size + 1 + 1), 7, none⟩ = some (.int .u8 v7) := fun o => (aa (ah n0.out o) 7).trans rfl; have d8 : ∀ o, (w2.alloc o).cell? ⟨(w.heap.size + 1 + 1), 8, none⟩ = some (.int .u8 0) := fun o => (aa (ah n0.out o) 8).trans rfl; have d9 : ∀ o, (w2.alloc o).cell? ⟨(w.heap.size + 1 + 1), 9, none⟩ = some (.int .u8 0) := fun o => (aa (ah n0.out o) 9).trans rfl; have fz : ∀ o i, (w2.alloc o).frozen? ⟨(w.heap.size + 1 + 1), i, none⟩ = false := fun o i => ae (ah n0.out o) i; have hq : ¬ (w.heap.size + 1 + 1) = w2.heap.size := Nat.ne_of_lt (aZ n0.out)))
     refine ⟨⟨4, rfl, rfl, ab.mk ⟨by omega, an (ah n0.out _) 8 _ rfl, al (ah n1.out _) hgc _, ag (ac n2.out _) (by omega)⟩⟩, by simp [intOf]⟩
    ·go_wp2_with (first | (go_at_call 35; ((with_reducible refine (aK.calls b0 b1 b2 b3 b4 b5 12 v9 e9 _ H9.out).mono ?_)); rintro e' w2 ⟨rfl, hb⟩; have n0 := ab.mk (af BB.out hb); have n1 := ab.mk (af BC.out hb); have n2 := ab.mk (ak HB.out hb); clear hb; have d0 : ∀ o, (w2.alloc o).cell? ⟨(w.heap.size + 1 + 1), 0, none⟩ = some (.int .u8 v0) := fun o => (aa (ah n0.out o) 0).trans rfl; have d1 : ∀ o, (w2.alloc o).cell? ⟨(w.heap.size + 1 + 1), 1, none⟩ = some (.int .u8 v1) := fun o => (aa (ah n0.out o) 1).trans rfl; have d2 : ∀ o, (w2.alloc o).cell? ⟨(w.heap.size + 1 + 1), 2, none⟩ = some (.int .u8 v2) := fun o => (aa (ah n0.out o) 2).trans rfl; have d3 : ∀ o, (w2.alloc o).cell? ⟨(w.heap.size + 1 + 1), 3, none⟩ = some (.int .u8 v3) := fun o => (aa (ah n0.out o) 3).trans rfl; have d4 : ∀ o, (w2.alloc o).cell? ⟨(w.heap.size + 1 + 1), 4, none⟩ = some (.int .u8 v4) := fun o => (aa (ah n0.out o) 4).trans rfl; have d5 : ∀ o, (w2.alloc o).cell? ⟨(w.heap.size + 1 + 1), 5, none⟩ = some (.int .u8 v5) := fun o => (aa (ah n0.out o) 5).trans rfl; have d6 : ∀ o, (w2.alloc o).cell? ⟨(w.heap.size + 1 + 1), 6, none⟩ = some (.int .u8 v6) := fun o => (aa (ah n0.out o) 6).trans rfl; have d7 : ∀ o, (w2.alloc o).cell? ⟨(w.heap.size + 1 + 1), 7, none⟩ = some (.int .u8 v7) := fun o => (aa (ah n0.out o) 7).trans rfl; have d8 : ∀ o, (w2.alloc o).cell? ⟨(w.heap.size + 1 + 1), 8, none⟩ = some (.int .u8 v8) := fun o => (aa (ah n0.out o) 8).trans rfl; have d9 : ∀ o, (w2.alloc o).cell? ⟨(w.heap.size + 1 + 1), 9, none⟩ = some (.int .u8 0) := fun o => (aa (ah n0.out o) 9).trans rfl; have fz : ∀ o i, (w2.alloc o).frozen? ⟨(w.heap.size + 1 + 1), i, none⟩ = false := fun o i => ae (ah n0.out o) i; have hq : ¬ (w.heap.size + 1 + 1) = w2.heap.size := Nat.ne_of_lt (aZ n0.out)))
     refine ⟨⟨5, rfl, rfl, ab.mk ⟨by omega, an (ah n0.out _) 9 _ rfl, al (ah n1.out _) hgc _, ag (ac n2.out _) (by omega)⟩⟩, by simp [intOf]⟩
    ·clear c0 c1 c2 c3 c4 c5
     go_wp2_with fail
     rw [rounds_succ]
     go_wp2
     go_returns
     exact ⟨BB.out, rfl, HB.out⟩
def bp.f (a0_0 : Int) (a0_1 : Int) (a0_2 : Int) (a0_3 : Int) (a0_4 : Bool) (a0_5 : Bool) (a1_0 : Int) (a1_1 : Int) (a1_2 : Int) (a1_3 : Int) (a1_4 : Bool) (a1_5 : Bool) : Option (List Int) :=
 (aK.f a0_0 a0_1 a0_2 a0_3 a0_4 a0_5 8).bind fun r0 => (aK.f a0_0 a0_1 a0_2 a0_3 a0_4 a0_5 9).bind fun r1 => (aK.f a0_0 a0_1 a0_2 a0_3 a0_4 a0_5 10).bind fun r2 => (aK.f a0_0 a0_1 a0_2 a0_3 a0_4 a0_5 11).bind fun r3 => (aK.f a0_0 a0_1 a0_2 a0_3 a0_4 a0_5 12).bind fun r4 => (aK.f a1_0 a1_1 a1_2 a1_3 a1_4 a1_5 8).bind fun r5 => (aK.f a1_0 a1_1 a1_2 a1_3 a1_4 a1_5 9).bind fun r6 => (aK.f a1_0 a1_1 a1_2 a1_3 a1_4 a1_5 10).bind fun r7 => (aK.f a1_0 a1_1 a1_2 a1_3 a1_4 a1_5 11).bind fun r8 => (aK.f a1_0 a1_1 a1_2 a1_3 a1_4 a1_5 12).bind fun r9 => some [r0.1, r1.1, r2.1, r3.1, r4.1, r5.1, r6.1, r7.1, r8.1, r9.1]
theorem bp.calls (a0_0 : Int) (a0_1 : Int) (a0_2 : Int) (a0_3 : Int) (a0_4 : Bool) (a0_5 : Bool) (a1_0 : Int) (a1_1 : Int) (a1_2 : Int) (a1_3 : Int) (a1_4 : Bool) (a1_5 : Bool) (r : List Int) (w : World) (h : bp.f a0_0 a0_1 a0_2 a0_3 a0_4 a0_5 a1_0 a1_1 a1_2 a1_3 a1_4 a1_5 = some r) :
  Calls Try.prog 48 #[.agg #[.int .u8 a0_0, .int .u8 a0_1, .int .u8 a0_2, .int .u16 a0_3, .bool a0_4, .bool a0_5], .agg #[.int .u8 a1_0, .int .u8 a1_1, .int .u8 a1_2, .int .u16 a1_3, .bool a1_4, .bool a1_5]] w fun e w' => ∃ v0_ : Value, e = .returned (v0_) ∧ Kd.R (Kd.int .u8) 5 w' w.heap.size (fun _ => True) v0_ r ∧ Below w.heap.size w w' := by
 unfold bp.f at h
 obtain ⟨⟨v0, e0⟩, h0, h⟩ := Option.bind_eq_some_iff.mp h
 obtain ⟨⟨v1, e1⟩, h1, h⟩ := Option.bind_eq_some_iff.mp h
 obtain ⟨⟨v2, e2⟩, h2, h⟩ := Option.bind_eq_some_iff.mp h
 obtain ⟨⟨v3, e3⟩, h3, h⟩ := Option.bind_eq_some_iff.mp h
 obtain ⟨⟨v4, e4⟩, h4, h⟩ := Option.bind_eq_some_iff.mp h
 obtain ⟨⟨v5, e5⟩, h5, h⟩ := Option.bind_eq_some_iff.mp h
 obtain ⟨⟨v6, e6⟩, h6, h⟩ := Option.bind_eq_some_iff.mp h
 obtain ⟨⟨v7, e7⟩, h7, h⟩ := Option.bind_eq_some_iff.mp h
 obtain ⟨⟨v8, e8⟩, h8, h⟩ := Option.bind_eq_some_iff.mp h
 obtain ⟨⟨v9, e9⟩, h9, h⟩ := Option.bind_eq_some_iff.mp h
 obtain rfl := Option.some.inj h
 refine (bytes_calls a0_0 a0_1 a0_2 a0_3 a0_4 a0_5 a1_0 a1_1 a1_2 a1_3 a1_4 a1_5 v0 v1 v2 v3 v4 v5 v6 v7 v8 v9 e0 e1 e2 e3 e4 e5 e6 e7 e8 e9 h0 h1 h2 h3 h4 h5 h6 h7 h8 h9 w).mono ?_
 rintro e w' ⟨hb, rfl, hB⟩
 refine ⟨_, rfl, ?_, hB⟩
 refine Kd.R_of_own (enc := Value.int .u8) (h1 := fun _ => rfl) ?_ (fun _ _ => trivial)
 exact ⟨rfl, .inr ⟨_, 10, _, rfl, by omega, hb, by simp, by decide, rfl, rfl⟩⟩
theorem ram_at {w : World} {a : Ad} {s : Ct} (h : ax w a s) (hl : s.ram.length ≤ 1048576) :
  Calls Try.prog 15 #[a.p] w fun e w' => ∃ v0 : Value, e = .returned v0 ∧ Kd.R (Kd.int .u8) 5 w' w.heap.size (fun _ => True) v0 s.ram ∧ Below w.heap.size w w' := by
 have HH := ab.mk h
 have HL := ab.mk hl
 clear h hl
 go_enter Try.func15, Try.ntmps15
 go_wp2_with fail
 refine (bI HH.out).mono ?_
 rintro e' w1 ⟨rfl, hw⟩
 replace hw := hw.symm
 subst hw
 go_wp2_with (first
  | ((with_reducible refine ar (N := 5) rfl ?_); refine Kd.R_lit (Kd.int .u8) (w0 := w) w.heap.size 5 ?hg (N := 5) ?hd (xs := ([] : List Int)) (inner := []) (ok := fun _ => True) (okp := fun _ => True) ?hr ?hp (fun _ hk => hk) trivial (Below.refl _ _) (Nat.le_refl _) (by simp) ?_; (case hd => rfl); (case hg => rfl); (case hr => first | (go_simp; done) | (go_simp; rfl)); (case hp => exact (Reps.none _ _)); intro v5 w5 ho hb hg_ hnew_; clear hg_ hnew_; have HO := ab.mk ho; have HB := ab.mk hb; have c30 := (HH.out.below hb).c30; clear ho hb)
  | ((with_reducible refine bJ (b := .append) (xs := #[.tmp 5, .tmp 9]) rfl ?_); at_builtin; refine Kd.R_append_rows (Kd.int .u8) (w0 := w) w.heap.size rfl (.tmp 5) (.tmp 9) 22 5 (.int .u8 0) 1 rfl Try.underlying22 info5 rfl (by decide) (by omega) v5 [] s.ram _ _ _ (fun _ => True) (fun _ => False) rfl rfl HO.out ?aR (fun _ _ h => h) (fun _ h => h.elim) (fun _ _ => trivial) HB.out (aw HB.out) ?aL ?_; (case aR => exact (HH.out.below HB.out).row.head.reads (by have := HL.out; omega)); (case aL => have := HL.out; simp; omega); intro v6 w6 ho hb hg hat; have HO2 := ab.mk ho; have HB2 := ab.mk hb; clear ho hb hg hat))
 go_ret
 exact ⟨v6, rfl, HO2.out, HB2.out⟩
def Ct.bytes (s : Ct) : Option (List Int) := bp.f s.lv.s s.lv.m s.lv.h s.lv.d s.lv.ht s.lv.cy s.hd.s s.hd.m s.hd.h s.hd.d s.hd.ht s.hd.cy
theorem save_no {w : World} {a : Ad} {s : Ct} (h : ax w a s) (hbt : s.hdr.bt = false) :
  Calls Try.prog 22 #[a.p] w fun e w' => e = .returned (.slice none 0 0) ∧ Below w.heap.size w w' := by
 have HH := ab.mk h
 have c23 := h.c23
 rw [hbt] at c23
 clear h
 go_enter Try.func22, Try.ntmps22
 go_wp2_with fail
 refine (bI HH.out).mono ?_
 rintro e' w1 ⟨rfl, hw⟩
 replace hw := hw.symm
 subst hw
 go_wp2
 go_ret
 exact ⟨rfl, Below.refl _ _⟩
theorem save_nil (w : World) :
  Calls Try.prog 22 #[.pointer none] w fun e w' => e = .returned (.slice none 0 0) ∧ Below w.heap.size w w' := by
 go_enter Try.func22, Try.ntmps22
 go_wp2
 go_ret
 exact ⟨rfl, Below.refl _ _⟩
theorem ram_nil (w : World) :
  Calls Try.prog 15 #[.pointer none] w fun e w' => e = .returned (.slice none 0 0) ∧ Below w.heap.size w w' := by
 go_enter Try.func15, Try.ntmps15
 go_wp2
 go_ret
 exact ⟨rfl, Below.refl _ _⟩
theorem save_ram {w : World} {a : Ad} {s : Ct} (h : ax w a s) (hl : s.ram.length ≤ 1048576) (hbt : s.hdr.bt = true) (hck : s.hdr.ck = false) :
  Calls Try.prog 22 #[a.p] w fun e w' => ∃ v0 : Value, e = .returned v0 ∧ Kd.R (Kd.int .u8) 5 w' w.heap.size (fun _ => True) v0 s.ram ∧ Below w.heap.size w w' := by
 have HH := ab.mk h
 have HL := ab.mk hl
 have c23 := h.c23
 rw [hbt] at c23
 clear h hl
 go_enter Try.func22, Try.ntmps22
 go_wp2_with fail
 refine (bI HH.out).mono ?_
 rintro e' w1 ⟨rfl, hw⟩
 replace hw := hw.symm
 subst hw
 go_wp2_with fail
 refine (ram_at HH.out HL.out).mono ?_
 rintro e' w1 ⟨v0, rfl, hr, hb⟩
 have c24 := (HH.out.below hb).c24
 rw [hck] at c24
 have HR := ab.mk hr
 have HB := ab.mk hb
 clear hr hb
 go_wp2
 go_ret
 exact ⟨v0, rfl, HR.out, HB.out⟩
theorem save_all {w : World} {a : Ad} {s : Ct} (h : ax w a s) (hl : s.ram.length ≤ 1048576) (hbt : s.hdr.bt = true) (hck : s.hdr.ck = true) (bs : List Int) (hbs : s.bytes = some bs) (hbl : bs.length ≤ 1048576) :
  Calls Try.prog 22 #[a.p] w fun e w' => ∃ v0 : Value, e = .returned v0 ∧ Kd.R (Kd.int .u8) 5 w' w.heap.size (fun _ => True) v0 (s.ram ++ bs) ∧ Below w.heap.size w w' := by
 have HH := ab.mk h
 have HL := ab.mk hl
 have HL2 := ab.mk hbl
 have HBS : ab (bp.f s.lv.s s.lv.m s.lv.h s.lv.d s.lv.ht s.lv.cy s.hd.s s.hd.m s.hd.h s.hd.d s.hd.ht s.hd.cy = some bs) := ab.mk hbs
 have c23 := h.c23
 rw [hbt] at c23
 clear h hl hbs hbl
 go_enter Try.func22, Try.ntmps22
 go_wp2_with fail
 refine (bI HH.out).mono ?_
 rintro e' w1 ⟨rfl, hw⟩
 replace hw := hw.symm
 subst hw
 go_wp2_with fail
 refine (ram_at HH.out HL.out).mono ?_
 rintro e' w1 ⟨v0, rfl, hr, hb⟩
 have h1 := HH.out.below hb
 have c24 := h1.c24
 rw [hck] at c24
 have c6 := h1.c6
 have c7 := h1.c7
 have c8 := h1.c8
 have c9 := h1.c9
 have c10 := h1.c10
 have c11 := h1.c11
 have c12 := h1.c12
 have c13 := h1.c13
 have c14 := h1.c14
 have c15 := h1.c15
 have c16 := h1.c16
 have c17 := h1.c17
 have HR := ab.mk hr
 have HB := ab.mk hb
 clear hr hb h1
 go_wp2_with fail
 go_region_law (first
  | ((refine Kd.R_append_rows_step (Kd.int .u8) (w0 := w) w.heap.size rfl (.tmp 21) (.tmp 32) 22 5 (.int .u8 0) 1 rfl Try.underlying22 info5 rfl (by decide) (by omega) v0 s.ram bs _ _ _ (fun _ => True) (fun _ => False) rfl rfl HR2.out HC2.out (fun _ _ h => h) (fun _ h => h.elim) (fun _ _ => trivial) HB2.out (aw HB2.out) ?aL ?_); (case aL => have := HL.out; have := HL2.out; omega); intro v6 w6 ho hb hg hat; have HO2 := ab.mk ho; have HB3 := ab.mk hb; clear ho hb hg hat)
  | (go_simp; go_at_call 48; ((with_reducible refine (bp.calls _ _ _ _ _ _ _ _ _ _ _ _ _ _ HBS.out).mono ?_)); rintro e' w2 ⟨v2, rfl, hr2, hb⟩; obtain ⟨A2, cc2, rfl, hcc2, hC2⟩ := Kd.R_reads hr2; have HB2 : ab (Below w.heap.size w w2) := ab.mk (ak HB.out (Below.trans (aj (Below.refl _ _)) hb)); have HC2 := ab.mk hC2; have HR2 : ab (Kd.R (Kd.int .u8) 5 w2 w.heap.size (fun _ => True) v0 s.ram) := ab.mk (Kd.R_below HR.out (Below.trans (aj (Below.refl _ _)) hb)); clear hr2 hb hC2 hcc2))
 all_goals (
  go_wp2
  go_ret
  exact ⟨v6, rfl, HO2.out, HB3.out⟩)
abbrev C6 := Int × Int × Int × Int × Bool × Bool
def csOf (p q : C6) : Array Value := #[.int .u8 p.1, .int .u8 p.2.1, .int .u8 p.2.2.1, .int .u16 p.2.2.2.1, .bool p.2.2.2.2.1, .bool p.2.2.2.2.2, .int .u8 q.1, .int .u8 q.2.1, .int .u8 q.2.2.1, .int .u16 q.2.2.2.1, .bool q.2.2.2.2.1, .bool q.2.2.2.2.2]
def stOf (X Y : Nat → C6) : Nat → Array Value
 | 0 => csOf (X 0) (Y 0)
 | 1 => csOf (X 1) (Y 0)
 | 2 => csOf (X 2) (Y 0)
 | 3 => csOf (X 3) (Y 0)
 | 4 => csOf (X 4) (Y 0)
 | 5 => csOf (X 5) (Y 0)
 | 6 => csOf (X 5) (Y 1)
 | 7 => csOf (X 5) (Y 2)
 | 8 => csOf (X 5) (Y 3)
 | 9 => csOf (X 5) (Y 4)
 | _ => csOf (X 5) (Y 5)
end Go.Proofs.Ytmjjojbedllmgaa.Hand
