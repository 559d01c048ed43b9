/- What the proof of the statement CartNews stands on, part 1. (Packed by pack.py out of this session's texts.) -/
import Derived.Handy
import Derived.Deep.MidRow
import Derived.Deep.RegionHeld3
import Derived.StillTailTactics
import Derived.OpenShut
import Derived.Laws.BitsAllLaws
import Derived.Laws.BitsLemmas
import Derived.RowKit
import Derived.Lib.EndianMore
import Derived.WalkMore
import Derived.Test.YtmjjojbedllmgaaQCartNews0
set_option linter.unusedVariables false
set_option linter.unusedSimpArgs false
set_option maxRecDepth 100000
set_option maxHeartbeats 8000000
section
namespace Go.Proofs.Ytmjjojbedllmgaa.Hand
open Go.RowKit
open Go.Proofs.Ytmjjojbedllmgaa.G
open Go.Proofs.YtmjjojbedllmgaaW.PrintWords Go.Proofs.YtmjjojbedllmgaaW.PrintLast Go.Proofs.YtmjjojbedllmgaaW.PrintMore
structure Mp where
 k : Int
 o : Bool
 l : Int
 h : Int
 r : Int
 md : Bool
structure Ck where
 s : Int
 m : Int
 h : Int
 d : Int
 ht : Bool
 cy : Bool
structure Hd where
 t : ByteArray
 kd : Int
 mp : Int
 rm : Bool
 bt : Bool
 ck : Bool
 bk : Int
 sz : Int
 sm : Int
 wh : Int
structure Ct where
 mp : Mp
 lv : Ck
 hd : Ck
 last : Int
 hdr : Hd
 img : List Int
 ram : List Int
structure Ad where
 b : Nat
 gi : Nat
 ci : Nat
 gr : Nat
abbrev Hd.v (h : Hd) : Value := .agg #[.string h.t, .int .u8 h.kd, .int .i64 h.mp, .bool h.rm, .bool h.bt, .bool h.ck, .int .i64 h.bk, .int .i64 h.sz, .int .u8 h.sm, .int .u16 h.wh]
def Ct.cells (s : Ct) (a : Ad) : List Value := [.int .i64 s.mp.k, .bool s.mp.o, .int .u8 s.mp.l, .int .u8 s.mp.h, .int .u8 s.mp.r, .bool s.mp.md, .int .u8 s.lv.s, .int .u8 s.lv.m, .int .u8 s.lv.h, .int .u16 s.lv.d, .bool s.lv.ht, .bool s.lv.cy, .int .u8 s.hd.s, .int .u8 s.hd.m, .int .u8 s.hd.h, .int .u16 s.hd.d, .bool s.hd.ht, .bool s.hd.cy, .int .u8 s.last, .string s.hdr.t, .int .u8 s.hdr.kd, .int .i64 s.hdr.mp, .bool s.hdr.rm, .bool s.hdr.bt, .bool s.hdr.ck, .int .i64 s.hdr.bk, .int .i64 s.hdr.sz, .int .u8 s.hdr.sm, .int .u16 s.hdr.wh, .slice (some ⟨a.gi, 0, none⟩) s.img.length a.ci, .slice (some ⟨a.gr, 0, none⟩) s.ram.length s.ram.length, .bool true]
def HeadL (w : World) (g : Nat) (L : List Int) : Prop := ∃ cs : Array Value, w.heap[g]? = some (.cells cs 5 (0, 0)) ∧ ∀ i : Nat, i < L.length → cs[i]? = some (.int .u8 (rd L i))
theorem HeadL.cell {w : World} {g : Nat} {L : List Int} (h : HeadL w g L) (i : Nat) (hi : i < L.length) : w.cell? ⟨g, i, none⟩ = some (.int .u8 (rd L i)) := by
 obtain ⟨cs, h1, h2⟩ := h
 exact (blk_cell h1 i).trans (h2 i hi)
theorem HeadL.of_block {w w' : World} {g : Nat} {L : List Int} (h : HeadL w g L) (e : w'.heap[g]? = w.heap[g]?) : HeadL w' g L := by
 obtain ⟨cs, h1, h2⟩ := h
 exact ⟨cs, e.trans h1, h2⟩
theorem HeadL.lt {w : World} {g : Nat} {L : List Int} (h : HeadL w g L) : g < w.heap.size := by
 obtain ⟨cs, h1, _⟩ := h
 exact blk_lt h1
theorem RowL.head {w : World} {g : Nat} {L : List Int} (h : RowL w g L) : HeadL w g L :=
 ⟨_, h, fun i hi => (blk_cell h i).symm.trans (h.cell i hi)⟩
theorem HeadL.reads {w : World} {g : Nat} {L : List Int} (h : HeadL w g L) (hm : L.length ≤ 9223372036854775807) : Kd.C (Kd.int .u8) w (some ⟨g, 0, none⟩) L.length L := by
 refine Kd.C_of_reads (d := (0 : Int)) ⟨by simp, hm, fun h0 => ⟨_, rfl, fun j hj => ?_⟩⟩
 have q := h.cell j hj
 have e : L.getD j 0 = rd L j := by simp [rd, List.getD_eq_getElem?_getD]
 rw [e]
 have e2 : (⟨g, 0, none⟩ : Addr).add j = ⟨g, j, none⟩ := by
  simp only [Addr.add]
  split
  ·rename_i hz; rw [hz]
  ·simp
 rw [e2]
 exact q
structure CartAt (w : World) (a : Ad) (s : Ct) : Prop where
 box : w.heap[a.b]? = some (.cells (s.cells a).toArray 64 (0, 0))
 image : HeadL w a.gi s.img
 row : RowL w a.gr s.ram
 n1 : a.b ≠ a.gr
 n2 : a.gi ≠ a.gr
 n3 : a.gi ≠ a.b
structure Upto (S : Nat → Prop) (w w' : World) : Prop where
 os : w'.os = w.os
 tape : w'.tape = w.tape
 output : w'.output = w.output
 size : w.heap.size ≤ w'.heap.size
 block : ∀ k, k < w.heap.size → ¬ S k → w'.heap[k]? = w.heap[k]?
def Ad.S (a : Ad) (k : Nat) : Prop := k = a.b ∨ k = a.gr
theorem Upto.refl (S : Nat → Prop) (w : World) : Upto S w w := ⟨rfl, rfl, rfl, Nat.le_refl _, fun _ _ _ => rfl⟩
theorem Upto.trans {S : Nat → Prop} {w w' w'' : World} (h : Upto S w w') (k : Upto S w' w'') : Upto S w w'' :=
 ⟨k.os.trans h.os, k.tape.trans h.tape, k.output.trans h.output, Nat.le_trans h.size k.size, fun i hi hS => (k.block i (Nat.lt_of_lt_of_le hi h.size) hS).trans (h.block i hi hS)⟩
theorem Upto.of_below {S : Nat → Prop} {w w' : World} (h : Below w.heap.size w w') : Upto S w w' := ⟨h.os, h.tape, h.output, h.size, fun k hk _ => h.block k hk⟩
theorem Upto.set {S : Nat → Prop} {w w' : World} (h : Upto S w w') {p : Addr} (hp : S p.block) (u : Value) : Upto S w (w'.setCell p u) :=
 ⟨h.os, h.tape, h.output, by simpa [World.setCell] using h.size, fun k hk hS => (Below.heap_setCell _ _ _ _ (fun e => hS (by rw [e]; exact hp))).trans (h.block k hk hS)⟩
theorem Upto.setB {b : Nat} {w w' : World} (h : Upto (fun k => k = b) w w') (i : Nat) (u : Value) : Upto (fun k => k = b) w (w'.setCell ⟨b, i, none⟩ u) := Upto.set h (p := ⟨b, i, none⟩) rfl u
theorem Upto.mono {S T : Nat → Prop} {w w' : World} (h : Upto S w w') (hT : ∀ k, S k → T k) : Upto T w w' := ⟨h.os, h.tape, h.output, h.size, fun k hk hS => h.block k hk (fun q => hS (hT k q))⟩
theorem Upto.below {S : Nat → Prop} {w w' w0 : World} {B : Nat} (h : Upto S w w') (hb : Below B w0 w) (hB : B ≤ w.heap.size) (hS : ∀ k, S k → B ≤ k) : Below B w0 w' :=
 ⟨h.os.trans hb.os, h.tape.trans hb.tape, h.output.trans hb.output, Nat.le_trans hb.size h.size, fun k hk => (h.block k (by omega) (fun q => by have := hS k q; omega)).trans (hb.block k hk)⟩
theorem Upto.blk {S : Nat → Prop} {w w' : World} {g : Nat} {o : Obj} (h : Upto S w w') (hb : w.heap[g]? = some o) (hS : ¬ S g) : w'.heap[g]? = some o := (h.block g (blk_lt hb) hS).trans hb
theorem CartAt.kept {w w' : World} {a : Ad} {s : Ct} (h : CartAt w a s) {S : Nat → Prop} (u : Upto S w w') (h1 : ¬ S a.b) (h2 : ¬ S a.gi) (h3 : ¬ S a.gr) : CartAt w' a s :=
 ⟨u.blk h.box h1, h.image.of_block (u.block _ h.image.lt h2), u.blk h.row h3, h.n1, h.n2, h.n3⟩
theorem CartAt.below {w w' : World} {a : Ad} {s : Ct} (h : CartAt w a s) (hb : Below w.heap.size w w') : CartAt w' a s :=
 h.kept (S := fun _ => False) (Upto.of_below hb) (fun q => q) (fun q => q) (fun q => q)
theorem CartAt.frozen {w : World} {a : Ad} {s : Ct} (h : CartAt w a s) (i : Nat) : w.frozen? ⟨a.b, i, none⟩ = false := blk_frozen h.box i
theorem CartAt.ltb {w : World} {a : Ad} {s : Ct} (h : CartAt w a s) : a.b < w.heap.size := blk_lt h.box
theorem CartAt.lti {w : World} {a : Ad} {s : Ct} (h : CartAt w a s) : a.gi < w.heap.size := h.image.lt
theorem CartAt.ltr {w : World} {a : Ad} {s : Ct} (h : CartAt w a s) : a.gr < w.heap.size := blk_lt h.row
theorem blk_setL {w : World} {g : Nat} {t : TypeId} {l : List Value} (h : w.heap[g]? = some (.cells l.toArray t (0, 0))) (i : Nat) (u : Value) : (w.setCell ⟨g, i, none⟩ u).heap[g]? = some (.cells (l.set i u).toArray t (0, 0)) :=
 blk_put h i u (by simp)
theorem CartAt.stored {w W : World} {a : Ad} {s s' : Ct} (h : CartAt w a s) (hb : W.heap[a.b]? = some (.cells (s'.cells a).toArray 64 (0, 0))) (u : Upto (fun k => k = a.b) w W) (hi : s'.img = s.img) (hr : s'.ram = s.ram) : CartAt W a s' ∧ Upto a.S w W :=
 ⟨⟨hb, by rw [hi]; exact h.image.of_block (u.block _ h.lti h.n3), by rw [hr]; exact u.blk h.row (fun q => h.n1 q.symm), h.n1, h.n2, h.n3⟩, u.mono fun k q => Or.inl q⟩
theorem cells_lv (s : Ct) (a : Ad) (c : Ck) : (((((((s.cells a).set 6 (.int .u8 c.s)).set 7 (.int .u8 c.m)).set 8 (.int .u8 c.h)).set 9 (.int .u16 c.d)).set 10 (.bool c.ht)).set 11 (.bool c.cy)) = ({ s with lv := c } : Ct).cells a := by simp [Ct.cells]
theorem cells_hd (s : Ct) (a : Ad) (c : Ck) : (((((((s.cells a).set 12 (.int .u8 c.s)).set 13 (.int .u8 c.m)).set 14 (.int .u8 c.h)).set 15 (.int .u16 c.d)).set 16 (.bool c.ht)).set 17 (.bool c.cy)) = ({ s with hd := c } : Ct).cells a := by simp [Ct.cells]
theorem cells_mp (s : Ct) (a : Ad) (c : Mp) : (((((((s.cells a).set 0 (.int .i64 c.k)).set 1 (.bool c.o)).set 2 (.int .u8 c.l)).set 3 (.int .u8 c.h)).set 4 (.int .u8 c.r)).set 5 (.bool c.md)) = ({ s with mp := c } : Ct).cells a := by simp [Ct.cells]
theorem cells_last (s : Ct) (a : Ad) (v : Int) : ((s.cells a).set 18 (.int .u8 v)) = ({ s with last := v } : Ct).cells a := by simp [Ct.cells]
theorem CartAt.c0 {w : World} {a : Ad} {s : Ct} (h : CartAt w a s) : w.cell? ⟨a.b, 0, none⟩ = some (.int .i64 s.mp.k) := (blk_cell h.box 0).trans rfl
theorem CartAt.c1 {w : World} {a : Ad} {s : Ct} (h : CartAt w a s) : w.cell? ⟨a.b, 1, none⟩ = some (.bool s.mp.o) := (blk_cell h.box 1).trans rfl
theorem CartAt.c2 {w : World} {a : Ad} {s : Ct} (h : CartAt w a s) : w.cell? ⟨a.b, 2, none⟩ = some (.int .u8 s.mp.l) := (blk_cell h.box 2).trans rfl
theorem CartAt.c3 {w : World} {a : Ad} {s : Ct} (h : CartAt w a s) : w.cell? ⟨a.b, 3, none⟩ = some (.int .u8 s.mp.h) := (blk_cell h.box 3).trans rfl
theorem CartAt.c4 {w : World} {a : Ad} {s : Ct} (h : CartAt w a s) : w.cell? ⟨a.b, 4, none⟩ = some (.int .u8 s.mp.r) := (blk_cell h.box 4).trans rfl
theorem CartAt.c5 {w : World} {a : Ad} {s : Ct} (h : CartAt w a s) : w.cell? ⟨a.b, 5, none⟩ = some (.bool s.mp.md) := (blk_cell h.box 5).trans rfl
theorem CartAt.c6 {w : World} {a : Ad} {s : Ct} (h : CartAt w a s) : w.cell? ⟨a.b, 6, none⟩ = some (.int .u8 s.lv.s) := (blk_cell h.box 6).trans rfl
theorem CartAt.c7 {w : World} {a : Ad} {s : Ct} (h : CartAt w a s) : w.cell? ⟨a.b, 7, none⟩ = some (.int .u8 s.lv.m) := (blk_cell h.box 7).trans rfl
theorem CartAt.c8 {w : World} {a : Ad} {s : Ct} (h : CartAt w a s) : w.cell? ⟨a.b, 8, none⟩ = some (.int .u8 s.lv.h) := (blk_cell h.box 8).trans rfl
theorem CartAt.c9 {w : World} {a : Ad} {s : Ct} (h : CartAt w a s) : w.cell? ⟨a.b, 9, none⟩ = some (.int .u16 s.lv.d) := (blk_cell h.box 9).trans rfl
theorem CartAt.c10 {w : World} {a : Ad} {s : Ct} (h : CartAt w a s) : w.cell? ⟨a.b, 10, none⟩ = some (.bool s.lv.ht) := (blk_cell h.box 10).trans rfl
theorem CartAt.c11 {w : World} {a : Ad} {s : Ct} (h : CartAt w a s) : w.cell? ⟨a.b, 11, none⟩ = some (.bool s.lv.cy) := (blk_cell h.box 11).trans rfl
theorem CartAt.c12 {w : World} {a : Ad} {s : Ct} (h : CartAt w a s) : w.cell? ⟨a.b, 12, none⟩ = some (.int .u8 s.hd.s) := (blk_cell h.box 12).trans rfl
theorem CartAt.c13 {w : World} {a : Ad} {s : Ct} (h : CartAt w a s) : w.cell? ⟨a.b, 13, none⟩ = some (.int .u8 s.hd.m) := (blk_cell h.box 13).trans rfl
theorem CartAt.c14 {w : World} {a : Ad} {s : Ct} (h : CartAt w a s) : w.cell? ⟨a.b, 14, none⟩ = some (.int .u8 s.hd.h) := (blk_cell h.box 14).trans rfl
theorem CartAt.c15 {w : World} {a : Ad} {s : Ct} (h : CartAt w a s) : w.cell? ⟨a.b, 15, none⟩ = some (.int .u16 s.hd.d) := (blk_cell h.box 15).trans rfl
theorem CartAt.c16 {w : World} {a : Ad} {s : Ct} (h : CartAt w a s) : w.cell? ⟨a.b, 16, none⟩ = some (.bool s.hd.ht) := (blk_cell h.box 16).trans rfl
theorem CartAt.c17 {w : World} {a : Ad} {s : Ct} (h : CartAt w a s) : w.cell? ⟨a.b, 17, none⟩ = some (.bool s.hd.cy) := (blk_cell h.box 17).trans rfl
theorem CartAt.c18 {w : World} {a : Ad} {s : Ct} (h : CartAt w a s) : w.cell? ⟨a.b, 18, none⟩ = some (.int .u8 s.last) := (blk_cell h.box 18).trans rfl
theorem CartAt.c19 {w : World} {a : Ad} {s : Ct} (h : CartAt w a s) : w.cell? ⟨a.b, 19, none⟩ = some (.string s.hdr.t) := (blk_cell h.box 19).trans rfl
theorem CartAt.c20 {w : World} {a : Ad} {s : Ct} (h : CartAt w a s) : w.cell? ⟨a.b, 20, none⟩ = some (.int .u8 s.hdr.kd) := (blk_cell h.box 20).trans rfl
theorem CartAt.c21 {w : World} {a : Ad} {s : Ct} (h : CartAt w a s) : w.cell? ⟨a.b, 21, none⟩ = some (.int .i64 s.hdr.mp) := (blk_cell h.box 21).trans rfl
theorem CartAt.c22 {w : World} {a : Ad} {s : Ct} (h : CartAt w a s) : w.cell? ⟨a.b, 22, none⟩ = some (.bool s.hdr.rm) := (blk_cell h.box 22).trans rfl
theorem CartAt.c23 {w : World} {a : Ad} {s : Ct} (h : CartAt w a s) : w.cell? ⟨a.b, 23, none⟩ = some (.bool s.hdr.bt) := (blk_cell h.box 23).trans rfl
theorem CartAt.c24 {w : World} {a : Ad} {s : Ct} (h : CartAt w a s) : w.cell? ⟨a.b, 24, none⟩ = some (.bool s.hdr.ck) := (blk_cell h.box 24).trans rfl
theorem CartAt.c25 {w : World} {a : Ad} {s : Ct} (h : CartAt w a s) : w.cell? ⟨a.b, 25, none⟩ = some (.int .i64 s.hdr.bk) := (blk_cell h.box 25).trans rfl
theorem CartAt.c26 {w : World} {a : Ad} {s : Ct} (h : CartAt w a s) : w.cell? ⟨a.b, 26, none⟩ = some (.int .i64 s.hdr.sz) := (blk_cell h.box 26).trans rfl
theorem CartAt.c27 {w : World} {a : Ad} {s : Ct} (h : CartAt w a s) : w.cell? ⟨a.b, 27, none⟩ = some (.int .u8 s.hdr.sm) := (blk_cell h.box 27).trans rfl
theorem CartAt.c28 {w : World} {a : Ad} {s : Ct} (h : CartAt w a s) : w.cell? ⟨a.b, 28, none⟩ = some (.int .u16 s.hdr.wh) := (blk_cell h.box 28).trans rfl
theorem CartAt.c29 {w : World} {a : Ad} {s : Ct} (h : CartAt w a s) : w.cell? ⟨a.b, 29, none⟩ = some (.slice (some ⟨a.gi, 0, none⟩) s.img.length a.ci) := (blk_cell h.box 29).trans rfl
theorem CartAt.c30 {w : World} {a : Ad} {s : Ct} (h : CartAt w a s) : w.cell? ⟨a.b, 30, none⟩ = some (.slice (some ⟨a.gr, 0, none⟩) s.ram.length s.ram.length) := (blk_cell h.box 30).trans rfl
theorem CartAt.c31 {w : World} {a : Ad} {s : Ct} (h : CartAt w a s) : w.cell? ⟨a.b, 31, none⟩ = some (.bool true) := (blk_cell h.box 31).trans rfl
end Go.Proofs.Ytmjjojbedllmgaa.Hand
end
section
namespace Go.Proofs.Ytmjjojbedllmgaa.Hand
open Go.RowKit
open Go.Proofs.Ytmjjojbedllmgaa.G
open Go.Proofs.YtmjjojbedllmgaaW.PrintWords Go.Proofs.YtmjjojbedllmgaaW.PrintLast Go.Proofs.YtmjjojbedllmgaaW.PrintMore
theorem blk_there {w : World} {g : Nat} {e : TypeId} {cs : Array Value} (h : w.heap[g]? = some (.cells cs e (0, 0))) (o n : Nat) (hn : o + n ≤ cs.size) : w.there g o n := fun j hj =>
 ⟨by rw [blk_cell h (o + j)]; simp; omega, blk_frozen h _⟩
theorem blk_setAll {w : World} {g : Nat} {e : TypeId} {cs : Array Value} (h : w.heap[g]? = some (.cells cs e (0, 0))) (vs : List Value) (hl : vs.length = cs.size) : (w.setCells g 0 vs).heap[g]? = some (.cells vs.toArray e (0, 0)) := by
 obtain ⟨cur, h1, h2, h3⟩ := setCells_row vs 0 w _ h (by omega)
 have q : cur = vs.toArray := by
  apply Array.toList_inj.mp
  rw [h3]
  simp [hl]
 rw [h1, q]
theorem blk_setFar {w : World} {g k : Nat} {o : Obj} (h : w.heap[k]? = some o) (hk : k ≠ g) (i : Nat) (vs : List Value) : (w.setCells g i vs).heap[k]? = some o := (setCells_far vs i k hk).trans h
theorem below_setAll {B : Nat} {w0 w : World} (h : Below B w0 w) (g o : Nat) (hg : B ≤ g) (vs : List Value) : Below B w0 (w.setCells g o vs) := by
 obtain ⟨h1, h2, h3, h4⟩ := setCells_same g vs o w
 exact ⟨h1.trans h.os, h2.trans h.tape, h3.trans h.output, by rw [h4]; exact h.size, fun k hk => (setCells_far vs o k (by omega)).trans (h.block k hk)⟩
end Go.Proofs.Ytmjjojbedllmgaa.Hand
end
section
namespace Go.Proofs.Ytmjjojbedllmgaa.Hand
open Go.RowKit
open Go.Proofs.Ytmjjojbedllmgaa.G
open Go.Proofs.YtmjjojbedllmgaaW.PrintWords Go.Proofs.YtmjjojbedllmgaaW.PrintLast Go.Proofs.YtmjjojbedllmgaaW.PrintMore
structure Rt where
 s : Ct
 Ai : Option Addr
 ci : Nat
 Ar : Option Addr
 cr : Nat
abbrev Rt.cells (r : Rt) : List Value := [.bool true, .string r.s.hdr.t, .int .u8 r.s.hdr.kd, .int .i64 r.s.hdr.mp, .bool r.s.hdr.rm, .bool r.s.hdr.bt, .bool r.s.hdr.ck, .int .i64 r.s.hdr.bk, .int .i64 r.s.hdr.sz, .int .u8 r.s.hdr.sm, .int .u16 r.s.hdr.wh, .slice r.Ai r.s.img.length r.ci, .slice r.Ar r.s.ram.length r.cr, .int .i64 r.s.mp.k, .bool r.s.mp.o, .int .u8 r.s.mp.l, .int .u8 r.s.mp.h, .int .u8 r.s.mp.r, .bool r.s.mp.md, .int .u8 r.s.lv.s, .int .u8 r.s.lv.m, .int .u8 r.s.lv.h, .int .u16 r.s.lv.d, .bool r.s.lv.ht, .bool r.s.lv.cy, .int .u8 r.s.hd.s, .int .u8 r.s.hd.m, .int .u8 r.s.hd.h, .int .u16 r.s.hd.d, .bool r.s.hd.ht, .bool r.s.hd.cy, .int .u8 r.s.last]
abbrev Rt.v (r : Rt) : Value := .agg #[.bool true, .string r.s.hdr.t, .int .u8 r.s.hdr.kd, .int .i64 r.s.hdr.mp, .bool r.s.hdr.rm, .bool r.s.hdr.bt, .bool r.s.hdr.ck, .int .i64 r.s.hdr.bk, .int .i64 r.s.hdr.sz, .int .u8 r.s.hdr.sm, .int .u16 r.s.hdr.wh, .slice r.Ai r.s.img.length r.ci, .slice r.Ar r.s.ram.length r.cr, .int .i64 r.s.mp.k, .bool r.s.mp.o, .int .u8 r.s.mp.l, .int .u8 r.s.mp.h, .int .u8 r.s.mp.r, .bool r.s.mp.md, .int .u8 r.s.lv.s, .int .u8 r.s.lv.m, .int .u8 r.s.lv.h, .int .u16 r.s.lv.d, .bool r.s.lv.ht, .bool r.s.lv.cy, .int .u8 r.s.hd.s, .int .u8 r.s.hd.m, .int .u8 r.s.hd.h, .int .u16 r.s.hd.d, .bool r.s.hd.ht, .bool r.s.hd.cy, .int .u8 r.s.last]
def BoxAt (w : World) (b : Nat) (r : Rt) : Prop := w.heap[b]? = some (.cells r.cells.toArray 36 (0, 0))
theorem BoxAt.c11 {w : World} {b : Nat} {r : Rt} (h : BoxAt w b r) : w.cell? ⟨b, 11, none⟩ = some (.slice r.Ai r.s.img.length r.ci) := (blk_cell h 11).trans rfl
theorem BoxAt.c12 {w : World} {b : Nat} {r : Rt} (h : BoxAt w b r) : w.cell? ⟨b, 12, none⟩ = some (.slice r.Ar r.s.ram.length r.cr) := (blk_cell h 12).trans rfl
theorem BoxAt.c13 {w : World} {b : Nat} {r : Rt} (h : BoxAt w b r) : w.cell? ⟨b, 13, none⟩ = some (.int .i64 r.s.mp.k) := (blk_cell h 13).trans rfl
theorem BoxAt.c14 {w : World} {b : Nat} {r : Rt} (h : BoxAt w b r) : w.cell? ⟨b, 14, none⟩ = some (.bool r.s.mp.o) := (blk_cell h 14).trans rfl
theorem BoxAt.c15 {w : World} {b : Nat} {r : Rt} (h : BoxAt w b r) : w.cell? ⟨b, 15, none⟩ = some (.int .u8 r.s.mp.l) := (blk_cell h 15).trans rfl
theorem BoxAt.c16 {w : World} {b : Nat} {r : Rt} (h : BoxAt w b r) : w.cell? ⟨b, 16, none⟩ = some (.int .u8 r.s.mp.h) := (blk_cell h 16).trans rfl
theorem BoxAt.c17 {w : World} {b : Nat} {r : Rt} (h : BoxAt w b r) : w.cell? ⟨b, 17, none⟩ = some (.int .u8 r.s.mp.r) := (blk_cell h 17).trans rfl
theorem BoxAt.c18 {w : World} {b : Nat} {r : Rt} (h : BoxAt w b r) : w.cell? ⟨b, 18, none⟩ = some (.bool r.s.mp.md) := (blk_cell h 18).trans rfl
theorem BoxAt.c25 {w : World} {b : Nat} {r : Rt} (h : BoxAt w b r) : w.cell? ⟨b, 25, none⟩ = some (.int .u8 r.s.hd.s) := (blk_cell h 25).trans rfl
theorem BoxAt.c26 {w : World} {b : Nat} {r : Rt} (h : BoxAt w b r) : w.cell? ⟨b, 26, none⟩ = some (.int .u8 r.s.hd.m) := (blk_cell h 26).trans rfl
theorem BoxAt.c27 {w : World} {b : Nat} {r : Rt} (h : BoxAt w b r) : w.cell? ⟨b, 27, none⟩ = some (.int .u8 r.s.hd.h) := (blk_cell h 27).trans rfl
theorem BoxAt.c28 {w : World} {b : Nat} {r : Rt} (h : BoxAt w b r) : w.cell? ⟨b, 28, none⟩ = some (.int .u16 r.s.hd.d) := (blk_cell h 28).trans rfl
theorem BoxAt.c29 {w : World} {b : Nat} {r : Rt} (h : BoxAt w b r) : w.cell? ⟨b, 29, none⟩ = some (.bool r.s.hd.ht) := (blk_cell h 29).trans rfl
theorem BoxAt.c30 {w : World} {b : Nat} {r : Rt} (h : BoxAt w b r) : w.cell? ⟨b, 30, none⟩ = some (.bool r.s.hd.cy) := (blk_cell h 30).trans rfl
theorem BoxAt.below {w w' : World} {b : Nat} {r : Rt} (h : BoxAt w b r) (hb : Below w.heap.size w w') : BoxAt w' b r := blk_below h hb
theorem BoxAt.new (w : World) (r : Rt) : BoxAt (w.alloc (.cells r.cells.toArray 36)) w.heap.size r := blk_new w _
theorem BoxAt.range {w : World} {b : Nat} {r : Rt} (h : BoxAt w b r) : w.rangeAt b 0 r.cells := fun j x hx => by
 rw [blk_cell h (0 + j), Nat.zero_add]
 simpa using hx
theorem Rt.one (r : Rt) : r.cells.toArray.all (·.oneCell') = true := by simp [Value.oneCell']
def RoomAt (w : World) (b : Nat) : Prop := ∃ cs : Array Value, cs.size = 32 ∧ w.heap[b]? = some (.cells cs 36 (0, 0))
theorem RoomAt.new (w : World) (cs : List Value) (h : cs.length = 32) : RoomAt (w.alloc (.cells cs.toArray 36)) w.heap.size := ⟨_, by simpa using h, blk_new w _⟩
theorem RoomAt.below {w w' : World} {b : Nat} (h : RoomAt w b) (hb : Below w.heap.size w w') : RoomAt w' b := by
 obtain ⟨cs, h1, h2⟩ := h
 exact ⟨cs, h1, blk_below h2 hb⟩
theorem RoomAt.there {w : World} {b : Nat} (h : RoomAt w b) : w.there b 0 32 := by
 obtain ⟨cs, h1, h2⟩ := h
 exact blk_there h2 0 32 (by omega)
theorem RoomAt.lt {w : World} {b : Nat} (h : RoomAt w b) : b < w.heap.size := by
 obtain ⟨cs, h1, h2⟩ := h
 exact blk_lt h2
theorem RoomAt.fill {w : World} {b : Nat} (h : RoomAt w b) (r : Rt) : BoxAt (w.setCells b 0 r.cells) b r := by
 obtain ⟨cs, h1, h2⟩ := h
 exact blk_setAll h2 r.cells (by rw [h1]; rfl)
theorem RoomAt.fillZ {w : World} {b : Nat} (h : RoomAt w b) (vs : List Value) (hv : vs.length = 32) : (w.setCells b 0 vs).heap[b]? = some (.cells vs.toArray 36 (0, 0)) := by
 obtain ⟨cs, h1, h2⟩ := h
 exact blk_setAll h2 vs (by rw [h1]; exact hv)
theorem RoomAt.drew {w : World} {b : Nat} (h : RoomAt w b) : RoomAt w.drew b := by
 obtain ⟨cs, h1, h2⟩ := h
 exact ⟨cs, h1, blk_drew h2⟩
theorem RoomAt.alloc {w : World} {b : Nat} (h : RoomAt w b) (o : Obj) : RoomAt (w.alloc o) b := by
 obtain ⟨cs, h1, h2⟩ := h
 exact ⟨cs, h1, blk_alloc h2 o⟩
structure RtAt (w : World) (r : Rt) : Prop where
 img : Kd.C (Kd.int .u8) w r.Ai r.s.img.length r.s.img
 ci : r.s.img.length ≤ r.ci
 ram : Kd.C (Kd.int .u8) w r.Ar r.s.ram.length r.s.ram
 cr : r.s.ram.length ≤ r.cr
end Go.Proofs.Ytmjjojbedllmgaa.Hand
end
section
namespace Go.Proofs.Ytmjjojbedllmgaa.Hand
open Go.RowKit
open Go.Proofs.Ytmjjojbedllmgaa.G
open Go.Proofs.YtmjjojbedllmgaaW.PrintWords Go.Proofs.YtmjjojbedllmgaaW.PrintLast Go.Proofs.YtmjjojbedllmgaaW.PrintMore
def Puts (f : FuncId) (args : Array Value) (v : Value) : Prop := ∀ w : World, Calls Try.prog f args w fun e w' => e = .returned v ∧ Below w.heap.size w w'
theorem Puts.run {f : FuncId} {args : Array Value} {v : Value} (h : Puts f args v) (w : World) : Calls Try.prog f args w fun e w' => e = .returned v ∧ Below w.heap.size w w' := h w
theorem rreg_no (r : Rt) (ad : Int) (hck : r.s.hdr.ck = false) : Puts 38 #[r.v, .int .u16 ad] (.int .i64 0) := by
 intro w
 go_enter Try.func38, Try.ntmps38
 go_wp2
 go_returns
 exact ⟨rfl, by go_grown⟩
theorem rreg_yes (r : Rt) (ad n : Int) (hck : r.s.hdr.ck = true) (hr : Puts 71 #[.agg #[.int .i64 r.s.mp.k, .bool r.s.mp.o, .int .u8 r.s.mp.l, .int .u8 r.s.mp.h, .int .u8 r.s.mp.r, .bool r.s.mp.md], .int .u16 ad] (.int .i64 n)) : Puts 38 #[r.v, .int .u16 ad] (.int .i64 n) := by
 intro w
 go_enter Try.func38, Try.ntmps38
 go_wp2_with fail
 refine (hr.run _).mono ?_
 rintro e' w1 ⟨rfl, hb⟩
 go_wp2
 go_returns
 exact ⟨rfl, below_step (below_alloc (Below.refl _ _) _) hb⟩
theorem rread_rom (s : Ct) (Ai : Option Addr) (ci : Nat) (Ar : Option Addr) (cr : Nat) (ad n : Int) (hlo : decide (ad < 32768) = true) (h0 : 0 ≤ n) (h1 : n < s.img.length) (w : World) (hat : RtAt w ⟨s, Ai, ci, Ar, cr⟩) (hr : Puts 37 #[.agg #[.int .i64 s.mp.k, .bool s.mp.o, .int .u8 s.mp.l, .int .u8 s.mp.h, .int .u8 s.mp.r, .bool s.mp.md], .int .u16 ad, .int .i64 s.img.length] (.int .i64 n)) :
  Calls Try.prog 14 #[(⟨s, Ai, ci, Ar, cr⟩ : Rt).v, .int .u16 ad] w fun e w' => e = .returned (.int .u8 (rd s.img n)) ∧ Below w.heap.size w w' := by
 have hI : Kd.C (Kd.int .u8) w Ai s.img.length s.img := hat.img
 have hc : s.img.length ≤ ci := hat.ci
 obtain ⟨g, rfl, _⟩ := Kd.at_int hI n (by omega) (by omega)
 have HI := Aside0.mk hI
 have hci : n < ci := by omega
 clear hat hI hc
 have BX := Aside0.mk (BoxAt.new w (⟨s, (some g), ci, Ar, cr⟩ : Rt))
 have HB := Aside0.mk (below_alloc (Below.refl w.heap.size w) (.cells (⟨s, (some g), ci, Ar, cr⟩ : Rt).cells.toArray 36))
 go_enter Try.func14, Try.ntmps14
 go_wp2_with fail
 generalize w.alloc (.cells #[.bool true, .string s.hdr.t, .int .u8 s.hdr.kd, .int .i64 s.hdr.mp, .bool s.hdr.rm, .bool s.hdr.bt, .bool s.hdr.ck, .int .i64 s.hdr.bk, .int .i64 s.hdr.sz, .int .u8 s.hdr.sm, .int .u16 s.hdr.wh, .slice (some g) s.img.length ci, .slice Ar s.ram.length cr, .int .i64 s.mp.k, .bool s.mp.o, .int .u8 s.mp.l, .int .u8 s.mp.h, .int .u8 s.mp.r, .bool s.mp.md, .int .u8 s.lv.s, .int .u8 s.lv.m, .int .u8 s.lv.h, .int .u16 s.lv.d, .bool s.lv.ht, .bool s.lv.cy, .int .u8 s.hd.s, .int .u8 s.hd.m, .int .u8 s.hd.h, .int .u16 s.hd.d, .bool s.hd.ht, .bool s.hd.cy, .int .u8 s.last] 36) = W at BX HB ⊢
 have c11 : W.cell? ⟨w.heap.size, 11, none⟩ = some (.slice (some g) s.img.length ci) := BX.out.c11
 have c13 : W.cell? ⟨w.heap.size, 13, none⟩ = some (.int .i64 s.mp.k) := BX.out.c13
 have c14 : W.cell? ⟨w.heap.size, 14, none⟩ = some (.bool s.mp.o) := BX.out.c14
 have c15 : W.cell? ⟨w.heap.size, 15, none⟩ = some (.int .u8 s.mp.l) := BX.out.c15
 have c16 : W.cell? ⟨w.heap.size, 16, none⟩ = some (.int .u8 s.mp.h) := BX.out.c16
 have c17 : W.cell? ⟨w.heap.size, 17, none⟩ = some (.int .u8 s.mp.r) := BX.out.c17
 have c18 : W.cell? ⟨w.heap.size, 18, none⟩ = some (.bool s.mp.md) := BX.out.c18
 obtain ⟨g', ea, cI⟩ := Kd.at_int (Kd.C_below HI.out HB.out) n (by omega) (by omega)
 obtain rfl := Option.some.inj ea
 clear ea
 go_region_held3 (fun w' => w'.cell? ⟨w.heap.size, 11, none⟩ = some (.slice (some g) s.img.length ci) ∧ w'.cell? ⟨w.heap.size, 13, none⟩ = some (.int .i64 s.mp.k) ∧ w'.cell? ⟨w.heap.size, 14, none⟩ = some (.bool s.mp.o) ∧ w'.cell? ⟨w.heap.size, 15, none⟩ = some (.int .u8 s.mp.l) ∧ w'.cell? ⟨w.heap.size, 16, none⟩ = some (.int .u8 s.mp.h) ∧ w'.cell? ⟨w.heap.size, 17, none⟩ = some (.int .u8 s.mp.r) ∧ w'.cell? ⟨w.heap.size, 18, none⟩ = some (.bool s.mp.md) ∧ w'.cell? (g.add n.toNat) = some (.int .u8 (rd s.img n))) (go_keep)
  (first | (go_at_call 37; ((with_reducible refine (hr.run _).mono ?_)); rintro e' w2 ⟨rfl, hb⟩; have n0 := Aside0.mk (blk_below (blk_drew BX.out) hb); have n1 := Aside0.mk (below_step (below_drew1 HB.out) hb); clear hb; have d11 : w2.cell? ⟨w.heap.size, 11, none⟩ = some (.slice (some g) s.img.length ci) := BoxAt.c11 n0.out; have d13 : w2.cell? ⟨w.heap.size, 13, none⟩ = some (.int .i64 s.mp.k) := BoxAt.c13 n0.out; have d14 : w2.cell? ⟨w.heap.size, 14, none⟩ = some (.bool s.mp.o) := BoxAt.c14 n0.out; have d15 : w2.cell? ⟨w.heap.size, 15, none⟩ = some (.int .u8 s.mp.l) := BoxAt.c15 n0.out; have d16 : w2.cell? ⟨w.heap.size, 16, none⟩ = some (.int .u8 s.mp.h) := BoxAt.c16 n0.out; have d17 : w2.cell? ⟨w.heap.size, 17, none⟩ = some (.int .u8 s.mp.r) := BoxAt.c17 n0.out; have d18 : w2.cell? ⟨w.heap.size, 18, none⟩ = some (.bool s.mp.md) := BoxAt.c18 n0.out; obtain ⟨g', ea, cI⟩ := Kd.at_int (Kd.C_below HI.out n1.out) n (by omega) (by omega); obtain rfl := Option.some.inj ea; clear ea))
 go_wp2
 go_returns
 exact ⟨rfl, n1.out⟩
theorem rread_reg (s : Ct) (Ai : Option Addr) (ci : Nat) (Ar : Option Addr) (cr : Nat) (ad n v x : Int) (hlo : decide (ad < 32768) = false) (h0 : (n == 0) = false) (hr : Puts 38 #[(⟨s, Ai, ci, Ar, cr⟩ : Rt).v, .int .u16 ad] (.int .i64 n)) (hv : Puts 39 #[.agg #[.int .u8 s.hd.s, .int .u8 s.hd.m, .int .u8 s.hd.h, .int .u16 s.hd.d, .bool s.hd.ht, .bool s.hd.cy], .int .i64 n] (.tuple #[.int .u8 v, .int .i64 x])) :
  Puts 14 #[(⟨s, Ai, ci, Ar, cr⟩ : Rt).v, .int .u16 ad] (.int .u8 v) := by
 intro w
 have BX := Aside0.mk (BoxAt.new w (⟨s, Ai, ci, Ar, cr⟩ : Rt))
 have HB := Aside0.mk (below_alloc (Below.refl w.heap.size w) (.cells (⟨s, Ai, ci, Ar, cr⟩ : Rt).cells.toArray 36))
 go_enter Try.func14, Try.ntmps14
 go_wp2_with (first | ((with_reducible refine gate_dst (N := 25) rfl ?_); refine wpList_load_mid rfl 36 (.tmp 2) rfl w.heap.size 0 rfl (⟨s, Ai, ci, Ar, cr⟩ : Rt).cells _ (BoxAt.range BX.out) rfl rfl (by kernel_rfl) ?_; simp only [Act.put, List.setIfInBounds_toArray, List.set_cons_zero, List.set_cons_succ]))
 generalize w.alloc (.cells #[.bool true, .string s.hdr.t, .int .u8 s.hdr.kd, .int .i64 s.hdr.mp, .bool s.hdr.rm, .bool s.hdr.bt, .bool s.hdr.ck, .int .i64 s.hdr.bk, .int .i64 s.hdr.sz, .int .u8 s.hdr.sm, .int .u16 s.hdr.wh, .slice Ai s.img.length ci, .slice Ar s.ram.length cr, .int .i64 s.mp.k, .bool s.mp.o, .int .u8 s.mp.l, .int .u8 s.mp.h, .int .u8 s.mp.r, .bool s.mp.md, .int .u8 s.lv.s, .int .u8 s.lv.m, .int .u8 s.lv.h, .int .u16 s.lv.d, .bool s.lv.ht, .bool s.lv.cy, .int .u8 s.hd.s, .int .u8 s.hd.m, .int .u8 s.hd.h, .int .u16 s.hd.d, .bool s.hd.ht, .bool s.hd.cy, .int .u8 s.last] 36) = W at BX HB ⊢
 refine (hr _).mono ?_
 rintro e' w2 ⟨rfl, hb⟩
 have n0 := Aside0.mk (BX.out.below hb)
 have n1 := Aside0.mk (below_step HB.out hb)
 clear hb BX HB
 have c25 : w2.cell? ⟨w.heap.size, 25, none⟩ = some (.int .u8 s.hd.s) := n0.out.c25
 have c26 : w2.cell? ⟨w.heap.size, 26, none⟩ = some (.int .u8 s.hd.m) := n0.out.c26
 have c27 : w2.cell? ⟨w.heap.size, 27, none⟩ = some (.int .u8 s.hd.h) := n0.out.c27
 have c28 : w2.cell? ⟨w.heap.size, 28, none⟩ = some (.int .u16 s.hd.d) := n0.out.c28
 have c29 : w2.cell? ⟨w.heap.size, 29, none⟩ = some (.bool s.hd.ht) := n0.out.c29
 have c30 : w2.cell? ⟨w.heap.size, 30, none⟩ = some (.bool s.hd.cy) := n0.out.c30
 go_wp2_with fail
 refine (hv _).mono ?_
 rintro e' w3 ⟨rfl, hb⟩
 go_wp2
 go_returns
 exact ⟨rfl, below_step n1.out hb⟩
theorem rread_no (s : Ct) (Ai : Option Addr) (ci : Nat) (Ar : Option Addr) (cr : Nat) (ad at_ : Int) (hlo : decide (ad < 32768) = false) (hat0 : decide (at_ < 0) = true) (hr : Puts 38 #[(⟨s, Ai, ci, Ar, cr⟩ : Rt).v, .int .u16 ad] (.int .i64 0)) (ha : Puts 40 #[.agg #[.int .i64 s.mp.k, .bool s.mp.o, .int .u8 s.mp.l, .int .u8 s.mp.h, .int .u8 s.mp.r, .bool s.mp.md], .int .u16 ad, .int .i64 s.ram.length] (.int .i64 at_)) (w : World) (hat : RtAt w ⟨s, Ai, ci, Ar, cr⟩) :
  Calls Try.prog 14 #[(⟨s, Ai, ci, Ar, cr⟩ : Rt).v, .int .u16 ad] w fun e w' => e = .returned (.int .u8 255) ∧ Below w.heap.size w w' := by
 clear hat
 have BX := Aside0.mk (BoxAt.new w (⟨s, Ai, ci, Ar, cr⟩ : Rt))
 have HB := Aside0.mk (below_alloc (Below.refl w.heap.size w) (.cells (⟨s, Ai, ci, Ar, cr⟩ : Rt).cells.toArray 36))
 go_enter Try.func14, Try.ntmps14
 go_wp2_with (first | ((with_reducible refine gate_dst (N := 25) rfl ?_); refine wpList_load_mid rfl 36 (.tmp 2) rfl w.heap.size 0 rfl (⟨s, Ai, ci, Ar, cr⟩ : Rt).cells _ (BoxAt.range BX.out) rfl rfl (by kernel_rfl) ?_; simp only [Act.put, List.setIfInBounds_toArray, List.set_cons_zero, List.set_cons_succ]))
 generalize w.alloc (.cells #[.bool true, .string s.hdr.t, .int .u8 s.hdr.kd, .int .i64 s.hdr.mp, .bool s.hdr.rm, .bool s.hdr.bt, .bool s.hdr.ck, .int .i64 s.hdr.bk, .int .i64 s.hdr.sz, .int .u8 s.hdr.sm, .int .u16 s.hdr.wh, .slice Ai s.img.length ci, .slice Ar s.ram.length cr, .int .i64 s.mp.k, .bool s.mp.o, .int .u8 s.mp.l, .int .u8 s.mp.h, .int .u8 s.mp.r, .bool s.mp.md, .int .u8 s.lv.s, .int .u8 s.lv.m, .int .u8 s.lv.h, .int .u16 s.lv.d, .bool s.lv.ht, .bool s.lv.cy, .int .u8 s.hd.s, .int .u8 s.hd.m, .int .u8 s.hd.h, .int .u16 s.hd.d, .bool s.hd.ht, .bool s.hd.cy, .int .u8 s.last] 36) = W at BX HB ⊢
 refine (hr _).mono ?_
 rintro e' w2 ⟨rfl, hb⟩
 have n0 := Aside0.mk (BX.out.below hb)
 have n1 := Aside0.mk (below_step HB.out hb)
 clear hb BX HB
 have c12 : w2.cell? ⟨w.heap.size, 12, none⟩ = some (.slice Ar s.ram.length cr) := n0.out.c12
 have c13 : w2.cell? ⟨w.heap.size, 13, none⟩ = some (.int .i64 s.mp.k) := n0.out.c13
 have c14 : w2.cell? ⟨w.heap.size, 14, none⟩ = some (.bool s.mp.o) := n0.out.c14
 have c15 : w2.cell? ⟨w.heap.size, 15, none⟩ = some (.int .u8 s.mp.l) := n0.out.c15
 have c16 : w2.cell? ⟨w.heap.size, 16, none⟩ = some (.int .u8 s.mp.h) := n0.out.c16
 have c17 : w2.cell? ⟨w.heap.size, 17, none⟩ = some (.int .u8 s.mp.r) := n0.out.c17
 have c18 : w2.cell? ⟨w.heap.size, 18, none⟩ = some (.bool s.mp.md) := n0.out.c18
 go_wp2_with fail
 refine (ha _).mono ?_
 rintro e' w3 ⟨rfl, hb⟩
 have m1 := Aside0.mk (below_step n1.out hb)
 clear hb
 go_wp2
 go_returns
 exact ⟨rfl, m1.out⟩
theorem rread_ram (s : Ct) (Ai : Option Addr) (ci : Nat) (Ar : Option Addr) (cr : Nat) (ad at_ : Int) (hlo : decide (ad < 32768) = false) (hat0 : decide (at_ < 0) = false) (h1 : at_ < s.ram.length) (hr : Puts 38 #[(⟨s, Ai, ci, Ar, cr⟩ : Rt).v, .int .u16 ad] (.int .i64 0)) (ha : Puts 40 #[.agg #[.int .i64 s.mp.k, .bool s.mp.o, .int .u8 s.mp.l, .int .u8 s.mp.h, .int .u8 s.mp.r, .bool s.mp.md], .int .u16 ad, .int .i64 s.ram.length] (.int .i64 at_)) (w : World) (hat : RtAt w ⟨s, Ai, ci, Ar, cr⟩) :
  Calls Try.prog 14 #[(⟨s, Ai, ci, Ar, cr⟩ : Rt).v, .int .u16 ad] w fun e w' => e = .returned (.int .u8 (rd s.ram at_)) ∧ Below w.heap.size w w' := by
 have h0 : 0 ≤ at_ := by simpa using hat0
 have hI : Kd.C (Kd.int .u8) w Ar s.ram.length s.ram := hat.ram
 have hc : s.ram.length ≤ cr := hat.cr
 obtain ⟨g, rfl, _⟩ := Kd.at_int hI at_ (by omega) (by omega)
 have HI := Aside0.mk hI
 have hci : at_ < cr := by omega
 clear hat hI hc
 have BX := Aside0.mk (BoxAt.new w (⟨s, Ai, ci, (some g), cr⟩ : Rt))
 have HB := Aside0.mk (below_alloc (Below.refl w.heap.size w) (.cells (⟨s, Ai, ci, (some g), cr⟩ : Rt).cells.toArray 36))
 go_enter Try.func14, Try.ntmps14
 go_wp2_with (first | ((with_reducible refine gate_dst (N := 25) rfl ?_); refine wpList_load_mid rfl 36 (.tmp 2) rfl w.heap.size 0 rfl (⟨s, Ai, ci, (some g), cr⟩ : Rt).cells _ (BoxAt.range BX.out) rfl rfl (by kernel_rfl) ?_; simp only [Act.put, List.setIfInBounds_toArray, List.set_cons_zero, List.set_cons_succ]))
 generalize w.alloc (.cells #[.bool true, .string s.hdr.t, .int .u8 s.hdr.kd, .int .i64 s.hdr.mp, .bool s.hdr.rm, .bool s.hdr.bt, .bool s.hdr.ck, .int .i64 s.hdr.bk, .int .i64 s.hdr.sz, .int .u8 s.hdr.sm, .int .u16 s.hdr.wh, .slice Ai s.img.length ci, .slice (some g) s.ram.length cr, .int .i64 s.mp.k, .bool s.mp.o, .int .u8 s.mp.l, .int .u8 s.mp.h, .int .u8 s.mp.r, .bool s.mp.md, .int .u8 s.lv.s, .int .u8 s.lv.m, .int .u8 s.lv.h, .int .u16 s.lv.d, .bool s.lv.ht, .bool s.lv.cy, .int .u8 s.hd.s, .int .u8 s.hd.m, .int .u8 s.hd.h, .int .u16 s.hd.d, .bool s.hd.ht, .bool s.hd.cy, .int .u8 s.last] 36) = W at BX HB ⊢
 refine (hr _).mono ?_
 rintro e' w2 ⟨rfl, hb⟩
 have n0 := Aside0.mk (BX.out.below hb)
 have n1 := Aside0.mk (below_step HB.out hb)
 clear hb BX HB
 have c12 : w2.cell? ⟨w.heap.size, 12, none⟩ = some (.slice (some g) s.ram.length cr) := n0.out.c12
 have c13 : w2.cell? ⟨w.heap.size, 13, none⟩ = some (.int .i64 s.mp.k) := n0.out.c13
 have c14 : w2.cell? ⟨w.heap.size, 14, none⟩ = some (.bool s.mp.o) := n0.out.c14
 have c15 : w2.cell? ⟨w.heap.size, 15, none⟩ = some (.int .u8 s.mp.l) := n0.out.c15
 have c16 : w2.cell? ⟨w.heap.size, 16, none⟩ = some (.int .u8 s.mp.h) := n0.out.c16
 have c17 : w2.cell? ⟨w.heap.size, 17, none⟩ = some (.int .u8 s.mp.r) := n0.out.c17
 have c18 : w2.cell? ⟨w.heap.size, 18, none⟩ = some (.bool s.mp.md) := n0.out.c18
 go_wp2_with fail
 refine (ha _).mono ?_
 rintro e' w3 ⟨rfl, hb⟩
 have m0 := Aside0.mk (n0.out.below hb)
 have m1 := Aside0.mk (below_step n1.out hb)
 clear hb c12 c13 c14 c15 c16 c17 c18 n0 n1
 have c12 : w3.cell? ⟨w.heap.size, 12, none⟩ = some (.slice (some g) s.ram.length cr) := m0.out.c12
 obtain ⟨g', ea, cI⟩ := Kd.at_int (Kd.C_below HI.out m1.out) at_ (by omega) (by omega)
 obtain rfl := Option.some.inj ea
 clear ea
 go_wp2
 go_returns
 exact ⟨rfl, m1.out⟩
end Go.Proofs.Ytmjjojbedllmgaa.Hand
end
section
namespace Go.Proofs.Ytmjjojbedllmgaa.Hand
open Go.RowKit
open Go.Proofs.Ytmjjojbedllmgaa.G
open Go.Proofs.YtmjjojbedllmgaaW.PrintWords Go.Proofs.YtmjjojbedllmgaaW.PrintLast Go.Proofs.YtmjjojbedllmgaaW.PrintMore
theorem Kd.R_base {w : World} {b0 b1 : Nat} {v : Value} {l : List Int} (h : Kd.R (Kd.int .u8) 5 w b1 (fun _ => True) v l) (hb : b0 ≤ b1) : Kd.R (Kd.int .u8) 5 w b0 (fun _ => True) v l := by
 obtain ⟨h1, h2⟩ := Kd.own_of_R h
 refine Kd.R_of_own ⟨h1, ?_⟩ (fun _ _ => trivial)
 rcases h2 with h2 | ⟨g, c, cur, e, hg, hx⟩
 ·exact Or.inl h2
 ·exact Or.inr ⟨g, c, cur, e, Nat.le_trans hb hg, hx⟩
end Go.Proofs.Ytmjjojbedllmgaa.Hand
end
section
namespace Go.Proofs.Ytmjjojbedllmgaa.Pure
open Go.RowKit
theorem wrap64_in {x : Int} (h : -9223372036854775808 ≤ x ∧ x ≤ 9223372036854775807) : wrap64 x = x := by unfold wrap64; omega
theorem nat_or_join (a d i : Nat) (h : d < 2 ^ i) : (a * 2 ^ i) ||| d = a * 2 ^ i + d := by
 rw [Nat.mul_comm, Nat.two_pow_add_eq_or_of_lt h]
theorem u16_or_join (a d : Int) (i : Nat) (hi : i ≤ 15) (ha : 0 ≤ a) (hd : 0 ≤ d) (hdi : d < ((2 ^ i : Nat) : Int)) (h : a * ((2 ^ i : Nat) : Int) + d < 65536) :
  bits .or .u16 (a * ((2 ^ i : Nat) : Int)) d = a * ((2 ^ i : Nat) : Int) + d := by
 obtain ⟨A, rfl⟩ := Int.eq_ofNat_of_zero_le ha
 obtain ⟨D, rfl⟩ := Int.eq_ofNat_of_zero_le hd
 have hA : A * 2 ^ i + D < 65536 := by
  have h3 : ((A * 2 ^ i + D : Nat) : Int) < ((65536 : Nat) : Int) := by rw [Int.natCast_add, Int.natCast_mul]; exact h
  exact Int.ofNat_lt.mp h3
 have hD : D < 2 ^ i := Int.ofNat_lt.mp hdi
 have e : ((A : Int) * ((2 ^ i : Nat) : Int)) = ((A * 2 ^ i : Nat) : Int) := (Int.natCast_mul _ _).symm
 have h1 : (BitVec.ofInt 16 ((A * 2 ^ i : Nat) : Int)).toNat = A * 2 ^ i := by
  rw [BitVec.ofInt_natCast, BitVec.toNat_ofNat]; exact Nat.mod_eq_of_lt (by omega)
 have h2 : (BitVec.ofInt 16 (D : Int)).toNat = D := by
  rw [BitVec.ofInt_natCast, BitVec.toNat_ofNat]; exact Nat.mod_eq_of_lt (by omega)
 rw [e]
 show IntKind.u16.wrap ((BitVec.ofInt 16 ((A * 2 ^ i : Nat) : Int) ||| BitVec.ofInt 16 (D : Int)).toNat : Int) = _
 rw [BitVec.toNat_or, h1, h2, nat_or_join A D i hD, IntKind.wrap_u16]
 omega
theorem u16_or256 (a d : Int) (ha : 0 ≤ a) (hd : 0 ≤ d) (hd' : d < 256) (h : a * 256 + d < 65536) : bits .or .u16 (a * 256) d = a * 256 + d := u16_or_join a d 8 (by omega) ha hd hd' h
end Go.Proofs.Ytmjjojbedllmgaa.Pure
end
section
namespace Go.Proofs.Ytmjjojbedllmgaa.G
open Go.RowKit Go.Proofs.YtmjjojbedllmgaaW.PrintWords Go.Proofs.YtmjjojbedllmgaaW.PrintLast Go.Proofs.YtmjjojbedllmgaaW.PrintMore
def clock_Norm.f (a0_0 : Int) (a0_1 : Int) (a0_2 : Int) (a0_3 : Int) (a0_4 : Bool) (a0_5 : Bool) : Option (Int × Int × Int × Int × Bool × Bool) := some (Go.bits .and .u8 a0_0 63, Go.bits .and .u8 a0_1 63, Go.bits .and .u8 a0_2 31, Go.bits .and .u16 a0_3 511, a0_4, a0_5)
theorem clock_Norm.calls (a0_0 : Int) (a0_1 : Int) (a0_2 : Int) (a0_3 : Int) (a0_4 : Bool) (a0_5 : Bool) (r1 : Int) (r2 : Int) (r3 : Int) (r4 : Int) (r5 : Bool) (r6 : Bool) (w : World) (h : clock_Norm.f a0_0 a0_1 a0_2 a0_3 a0_4 a0_5 = some (r1, r2, r3, r4, r5, r6)) :
  Calls Try.prog 66 #[.agg #[.int .u8 a0_0, .int .u8 a0_1, .int .u8 a0_2, .int .u16 a0_3, .bool a0_4, .bool a0_5]] w fun e w' => e = .returned (.agg #[.int .u8 r1, .int .u8 r2, .int .u8 r3, .int .u16 r4, .bool r5, .bool r6]) ∧ Below w.heap.size w w' := by
 have hu34 := Try.underlying34
 have HB := Aside0.mk (Below.refl w.heap.size w)
 have H : (some (Go.bits .and .u8 a0_0 63, Go.bits .and .u8 a0_1 63, Go.bits .and .u8 a0_2 31, Go.bits .and .u16 a0_3 511, a0_4, a0_5)) = some (r1, r2, r3, r4, r5, r6) := h
 clear h
 simp only [Option.some.injEq, Prod.mk.injEq] at H
 obtain ⟨rfl, rfl, rfl, rfl, rfl, rfl⟩ := H
 go_enter Try.func66, Try.ntmps66
 go_wp2_with (first | ((with_reducible refine gate_dst (N := 1) rfl ?_); refine box_event ?hg (N := 1) ?hd (cs := #[.int .u8 a0_0, .int .u8 a0_1, .int .u8 a0_2, .int .u16 a0_3, .bool a0_4, .bool a0_5]) (t := 34) ?hr ?_; (case hd => rfl); (case hg => rfl); (case hr => first | (go_simp; done) | (go_simp; rfl)); intro gb109 hg w2 hbox hb; have n0_ := Aside0.mk (below_step (by repeat (first | (with_reducible first | exact HB.out | apply below_alloc | apply pw_below_drewN | apply below_drew1) | exact HB.out)) hb); have n1_ := Aside0.mk (hbox); have n2_ := Aside0.mk ((by rw [hg]; exact (below_size (by repeat (first | (with_reducible first | exact HB.out | apply below_alloc | apply pw_below_drewN | apply below_drew1) | exact HB.out))) : w.heap.size ≤ gb109)); have n3_ := Aside0.mk ((by rw [hg]; exact (below_size (by repeat (first | (with_reducible first | exact HB.out | apply below_alloc | apply pw_below_drewN | apply below_drew1) | exact HB.out))) : w.heap.size ≤ gb109)); clear HB; have HB := n0_; have BK109 := n1_; have GW109 := n2_; have GE109 := n3_; clear n0_ n1_ n2_ n3_; clear hb hbox hg) | ((with_reducible refine gate_dst (N := 2) rfl ?_); refine box_event ?hg (N := 2) ?hd (cs := #[.int .u8 0, .int .u8 0, .int .u8 0, .int .u16 0, .bool false, .bool false]) (t := 34) ?hr ?_; (case hd => rfl); (case hg => rfl); (case hr => first | (go_simp; done) | (go_simp; rfl)); intro gb110 hg w3 hbox hb; have n0_ := Aside0.mk (blk_below (g := gb109) (o := .cells #[.int .u8 a0_0, .int .u8 a0_1, .int .u8 a0_2, .int .u16 a0_3, .bool a0_4, .bool a0_5] 34 (0, 0)) (by (with_reducible repeat (first | refine blk_drewN ?_ _ | refine blk_drew ?_ | refine blk_alloc ?_ _)); exact BK109.out) hb); have n1_ := Aside0.mk (below_step (by repeat (first | (with_reducible first | exact HB.out | apply below_alloc | apply pw_below_drewN | apply below_drew1 | refine below_set ?_ GE109.out) | exact HB.out)) hb); have n2_ := Aside0.mk (hbox); have n3_ := Aside0.mk ((by rw [hg]; exact (below_size (by repeat (first | (with_reducible first | exact HB.out | apply below_alloc | apply pw_below_drewN | apply below_drew1 | refine below_set ?_ GE109.out) | exact HB.out))) : w.heap.size ≤ gb110)); have n4_ := Aside0.mk ((by rw [hg]; exact (below_size (by repeat (first | (with_reducible first | exact HB.out | apply below_alloc | apply pw_below_drewN | apply below_drew1 | refine below_set ?_ GE109.out) | exact HB.out))) : w.heap.size ≤ gb110)); have n5_ := Aside0.mk ((by rw [hg]; exact Nat.ne_of_lt (blk_lt (g := gb109) (o := .cells #[.int .u8 a0_0, .int .u8 a0_1, .int .u8 a0_2, .int .u16 a0_3, .bool a0_4, .bool a0_5] 34 (0, 0)) (by (with_reducible repeat (first | refine blk_drewN ?_ _ | refine blk_drew ?_ | refine blk_alloc ?_ _)); exact BK109.out)) : gb109 ≠ gb110)); have n6_ := Aside0.mk ((by rw [hg]; exact Nat.ne_of_gt (blk_lt (g := gb109) (o := .cells #[.int .u8 a0_0, .int .u8 a0_1, .int .u8 a0_2, .int .u16 a0_3, .bool a0_4, .bool a0_5] 34 (0, 0)) (by (with_reducible repeat (first | refine blk_drewN ?_ _ | refine blk_drew ?_ | refine blk_alloc ?_ _)); exact BK109.out)) : gb110 ≠ gb109)); clear BK109; clear HB; have BK109 := n0_; have HB := n1_; have BK110 := n2_; have GW110 := n3_; have GE110 := n4_; have NB109_110 := n5_; have NB110_109 := n6_; clear n0_ n1_ n2_ n3_ n4_ n5_ n6_; clear hb hbox hg; have hnb4 := NB109_110.out; have hnc4 := NB110_109.out; have hcz5_0 : w3.cell? ⟨gb109, 0, none⟩ = some (.int .u8 a0_0) := (blk_cell BK109.out 0).trans rfl; have hcz5_1 : w3.cell? ⟨gb109, 1, none⟩ = some (.int .u8 a0_1) := (blk_cell BK109.out 1).trans rfl; have hcz5_2 : w3.cell? ⟨gb109, 2, none⟩ = some (.int .u8 a0_2) := (blk_cell BK109.out 2).trans rfl; have hcz5_3 : w3.cell? ⟨gb109, 3, none⟩ = some (.int .u16 a0_3) := (blk_cell BK109.out 3).trans rfl; have hcz5_4 : w3.cell? ⟨gb109, 4, none⟩ = some (.bool a0_4) := (blk_cell BK109.out 4).trans rfl; have hcz5_5 : w3.cell? ⟨gb109, 5, none⟩ = some (.bool a0_5) := (blk_cell BK109.out 5).trans rfl; have hfz5_0 := blk_frozen BK109.out 0; have hfz5_1 := blk_frozen BK109.out 1; have hfz5_2 := blk_frozen BK109.out 2; have hfz5_3 := blk_frozen BK109.out 3; have hfz5_4 := blk_frozen BK109.out 4; have hfz5_5 := blk_frozen BK109.out 5; have hcz6_0 : w3.cell? ⟨gb110, 0, none⟩ = some (.int .u8 0) := (blk_cell BK110.out 0).trans rfl; have hcz6_1 : w3.cell? ⟨gb110, 1, none⟩ = some (.int .u8 0) := (blk_cell BK110.out 1).trans rfl; have hcz6_2 : w3.cell? ⟨gb110, 2, none⟩ = some (.int .u8 0) := (blk_cell BK110.out 2).trans rfl; have hcz6_3 : w3.cell? ⟨gb110, 3, none⟩ = some (.int .u16 0) := (blk_cell BK110.out 3).trans rfl; have hcz6_4 : w3.cell? ⟨gb110, 4, none⟩ = some (.bool false) := (blk_cell BK110.out 4).trans rfl; have hcz6_5 : w3.cell? ⟨gb110, 5, none⟩ = some (.bool false) := (blk_cell BK110.out 5).trans rfl; have hfz6_0 := blk_frozen BK110.out 0; have hfz6_1 := blk_frozen BK110.out 1; have hfz6_2 := blk_frozen BK110.out 2; have hfz6_3 := blk_frozen BK110.out 3; have hfz6_4 := blk_frozen BK110.out 4; have hfz6_5 := blk_frozen BK110.out 5))
 refine bodyPost_ret (results_cell_row rfl _ _ gb110 34 #[.int .u8 (Go.bits .and .u8 a0_0 63), .int .u8 (Go.bits .and .u8 a0_1 63), .int .u8 (Go.bits .and .u8 a0_2 31), .int .u16 (Go.bits .and .u16 a0_3 511), .bool a0_4, .bool a0_5] (0, 0) _ rfl (by (with_reducible repeat (first | refine blk_drewN ?_ _ | refine blk_drew ?_ | refine blk_alloc ?_ _)); refine blk_put (cs := #[.int .u8 (Go.bits .and .u8 a0_0 63), .int .u8 (Go.bits .and .u8 a0_1 63), .int .u8 (Go.bits .and .u8 a0_2 31), .int .u16 (Go.bits .and .u16 a0_3 511), .bool a0_4, .bool false]) ?_ 5 _ rfl; (with_reducible repeat (first | refine blk_drewN ?_ _ | refine blk_drew ?_ | refine blk_alloc ?_ _)); refine blk_put (cs := #[.int .u8 (Go.bits .and .u8 a0_0 63), .int .u8 (Go.bits .and .u8 a0_1 63), .int .u8 (Go.bits .and .u8 a0_2 31), .int .u16 (Go.bits .and .u16 a0_3 511), .bool false, .bool false]) ?_ 4 _ rfl; (with_reducible repeat (first | refine blk_drewN ?_ _ | refine blk_drew ?_ | refine blk_alloc ?_ _)); refine blk_put (cs := #[.int .u8 (Go.bits .and .u8 a0_0 63), .int .u8 (Go.bits .and .u8 a0_1 63), .int .u8 (Go.bits .and .u8 a0_2 31), .int .u16 0, .bool false, .bool false]) ?_ 3 _ rfl; (with_reducible repeat (first | refine blk_drewN ?_ _ | refine blk_drew ?_ | refine blk_alloc ?_ _)); refine blk_put (cs := #[.int .u8 (Go.bits .and .u8 a0_0 63), .int .u8 (Go.bits .and .u8 a0_1 63), .int .u8 0, .int .u16 0, .bool false, .bool false]) ?_ 2 _ rfl; (with_reducible repeat (first | refine blk_drewN ?_ _ | refine blk_drew ?_ | refine blk_alloc ?_ _)); refine blk_put (cs := #[.int .u8 (Go.bits .and .u8 a0_0 63), .int .u8 0, .int .u8 0, .int .u16 0, .bool false, .bool false]) ?_ 1 _ rfl; (with_reducible repeat (first | refine blk_drewN ?_ _ | refine blk_drew ?_ | refine blk_alloc ?_ _)); refine blk_put (cs := #[.int .u8 0, .int .u8 0, .int .u8 0, .int .u16 0, .bool false, .bool false]) ?_ 0 _ rfl; (with_reducible repeat (first | refine blk_drewN ?_ _ | refine blk_drew ?_ | refine blk_alloc ?_ _)); refine blk_far ?_ NB110_109.out _; (with_reducible repeat (first | refine blk_drewN ?_ _ | refine blk_drew ?_ | refine blk_alloc ?_ _)); refine blk_far ?_ NB110_109.out _; (with_reducible repeat (first | refine blk_drewN ?_ _ | refine blk_drew ?_ | refine blk_alloc ?_ _)); refine blk_far ?_ NB110_109.out _; (with_reducible repeat (first | refine blk_drewN ?_ _ | refine blk_drew ?_ | refine blk_alloc ?_ _)); refine blk_far ?_ NB110_109.out _; (with_reducible repeat (first | refine blk_drewN ?_ _ | refine blk_drew ?_ | refine blk_alloc ?_ _)); exact BK110.out) Try.underlying34 rfl (by kernel_rfl)) rfl ?_
 exact ⟨by first | rfl | (simp [errW_none, errW_some] <;> rfl) | (simp [*, errW_none, errW_some] <;> rfl), by repeat (first | (with_reducible first | exact HB.out | apply below_alloc | apply pw_below_drewN | apply below_drew1 | refine below_set ?_ GE109.out | refine below_set ?_ GE110.out) | exact HB.out)⟩
end Go.Proofs.Ytmjjojbedllmgaa.G
end
section
namespace Go.Proofs.Ytmjjojbedllmgaa.Hand
open Go.RowKit
open Go.Proofs.Ytmjjojbedllmgaa.G
open Go.Proofs.YtmjjojbedllmgaaW.PrintWords Go.Proofs.YtmjjojbedllmgaaW.PrintLast Go.Proofs.YtmjjojbedllmgaaW.PrintMore
theorem c6 {w : World} {g : Nat} {t : TypeId} {v0 v1 v2 v3 v4 v5 : Value} (h : w.heap[g]? = some (.cells #[v0, v1, v2, v3, v4, v5] t (0, 0))) :
  w.cell? ⟨g, 0, none⟩ = some v0 ∧ w.cell? ⟨g, 1, none⟩ = some v1 ∧ w.cell? ⟨g, 2, none⟩ = some v2 ∧ w.cell? ⟨g, 3, none⟩ = some v3 ∧ w.cell? ⟨g, 4, none⟩ = some v4 ∧ w.cell? ⟨g, 5, none⟩ = some v5 :=
 ⟨(blk_cell h 0).trans rfl, (blk_cell h 1).trans rfl, (blk_cell h 2).trans rfl, (blk_cell h 3).trans rfl, (blk_cell h 4).trans rfl, (blk_cell h 5).trans rfl⟩
theorem put6 {w w0 : World} {g : Nat} {t : TypeId} {a0 a1 a2 a3 a4 a5 : Value} (h : w.heap[g]? = some (.cells #[a0, a1, a2, a3, a4, a5] t (0, 0))) (hb : Below w0.heap.size w0 w) (hg : w0.heap.size ≤ g) (v0 v1 v2 v3 v4 v5 : Value) :
    ((((((w.setCell ⟨g, 0, none⟩ v0).setCell ⟨g, 1, none⟩ v1).setCell ⟨g, 2, none⟩ v2).setCell ⟨g, 3, none⟩ v3).setCell ⟨g, 4, none⟩ v4).setCell ⟨g, 5, none⟩ v5).heap[g]? = some (.cells #[v0, v1, v2, v3, v4, v5] t (0, 0)) ∧
    Below w0.heap.size w0 ((((((w.setCell ⟨g, 0, none⟩ v0).setCell ⟨g, 1, none⟩ v1).setCell ⟨g, 2, none⟩ v2).setCell ⟨g, 3, none⟩ v3).setCell ⟨g, 4, none⟩ v4).setCell ⟨g, 5, none⟩ v5) :=
  ⟨blk_put (blk_put (blk_put (blk_put (blk_put (blk_put h 0 v0 rfl) 1 v1 rfl) 2 v2 rfl) 3 v3 rfl) 4 v4 rfl) 5 v5 rfl,
   below_set (below_set (below_set (below_set (below_set (below_set hb hg) hg) hg) hg) hg) hg⟩
theorem far6 {w : World} {g k : Nat} {t : TypeId} {cs : Array Value} (h : w.heap[k]? = some (.cells cs t (0, 0))) (hk : k ≠ g) (v0 v1 v2 v3 v4 v5 : Value) :
  ((((((w.setCell ⟨g, 0, none⟩ v0).setCell ⟨g, 1, none⟩ v1).setCell ⟨g, 2, none⟩ v2).setCell ⟨g, 3, none⟩ v3).setCell ⟨g, 4, none⟩ v4).setCell ⟨g, 5, none⟩ v5).heap[k]? = some (.cells cs t (0, 0)) :=
 blk_far (blk_far (blk_far (blk_far (blk_far (blk_far h hk v0) hk v1) hk v2) hk v3) hk v4) hk v5
end Go.Proofs.Ytmjjojbedllmgaa.Hand
end
section
namespace Go.Proofs.Ytmjjojbedllmgaa.Hand
open Go.RowKit
open Go.Proofs.Ytmjjojbedllmgaa.G
open Go.Proofs.YtmjjojbedllmgaaW.PrintWords Go.Proofs.YtmjjojbedllmgaaW.PrintLast Go.Proofs.YtmjjojbedllmgaaW.PrintMore
theorem tick_halt (a0 a1 a2 a3 : Int) (a4 a5 : Bool) (s m h d : Int) (cy : Bool) (hn : clock_Norm.f a0 a1 a2 a3 a4 a5 = some (s, m, h, d, true, cy))  (w : World) :
  Calls Try.prog 46 #[.agg #[.int .u8 a0, .int .u8 a1, .int .u8 a2, .int .u16 a3, .bool a4, .bool a5]] w fun e' w' => e' = .returned (.agg #[.int .u8 s, .int .u8 m, .int .u8 h, .int .u16 d, .bool true, .bool cy]) ∧ Below w.heap.size w w' := by
 have HN := Aside0.mk hn
 clear hn
 go_enter Try.func46, Try.ntmps46
 go_wp2_with fail
 have BK := Aside0.mk (blk_alloc (blk_new w (.cells #[.int .u8 a0, .int .u8 a1, .int .u8 a2, .int .u16 a3, .bool a4, .bool a5] 34)) (.cells #[.int .u8 0, .int .u8 0, .int .u8 0, .int .u16 0, .bool false, .bool false] 34))
 have e1 : (w.alloc (.cells #[.int .u8 a0, .int .u8 a1, .int .u8 a2, .int .u16 a3, .bool a4, .bool a5] 34)).heap.size = w.heap.size + 1 := by simp
 have zN := heap_alloc_new (w.alloc (.cells #[.int .u8 a0, .int .u8 a1, .int .u8 a2, .int .u16 a3, .bool a4, .bool a5] 34)) (.cells #[.int .u8 0, .int .u8 0, .int .u8 0, .int .u16 0, .bool false, .bool false] 34)
 rw [e1] at zN
 have BR := Aside0.mk zN
 have HB := Aside0.mk (below_alloc (below_alloc (Below.refl w.heap.size w) (.cells #[.int .u8 a0, .int .u8 a1, .int .u8 a2, .int .u16 a3, .bool a4, .bool a5] 34)) (.cells #[.int .u8 0, .int .u8 0, .int .u8 0, .int .u16 0, .bool false, .bool false] 34))
 clear zN e1
 have hz : ((w.alloc (.cells #[.int .u8 a0, .int .u8 a1, .int .u8 a2, .int .u16 a3, .bool a4, .bool a5] 34)).alloc (.cells #[.int .u8 0, .int .u8 0, .int .u8 0, .int .u16 0, .bool false, .bool false] 34)).heap.size = w.heap.size + 2 := by simp
 generalize (w.alloc (.cells #[.int .u8 a0, .int .u8 a1, .int .u8 a2, .int .u16 a3, .bool a4, .bool a5] 34)).alloc (.cells #[.int .u8 0, .int .u8 0, .int .u8 0, .int .u16 0, .bool false, .bool false] 34) = W at *
 obtain ⟨c0, c1, c2, c3, c4, c5⟩ := c6 BK.out
 have fz := fun i => blk_frozen BK.out i
 go_step3
 go_wp2_with (first | (go_at_call 66; ((with_reducible refine (clock_Norm.calls a0 a1 a2 a3 a4 a5 (s) (m) (h) (d) (true) (cy) _ HN.out).mono ?_)); rintro e' w1 ⟨rfl, hb⟩; have n0 := Aside0.mk ((hb.block w.heap.size (by rw [hz]; omega)).trans BK.out); have n1 := Aside0.mk ((hb.block (w.heap.size + 1) (by rw [hz]; omega)).trans BR.out); have n2 := Aside0.mk (Below.trans HB.out (hb.mono (by rw [hz]; omega))); clear hb BK BR HB c0 c1 c2 c3 c4 c5 fz; obtain ⟨c0, c1, c2, c3, c4, c5⟩ := c6 n0.out; obtain ⟨z0, z1, z2, z3, z4, z5⟩ := c6 n1.out; have fz := fun i => blk_frozen n0.out i; have fr := fun i => blk_frozen n1.out i))
 rw [Exit.noGoto_ret]
 obtain ⟨m1, m2⟩ := put6 (by repeat (first | (with_reducible exact n1.out) | refine blk_far ?_ (by simp) _) : ((((((w1.setCell ⟨w.heap.size, 0, none⟩ (.int .u8 s)).setCell ⟨w.heap.size, 1, none⟩ (.int .u8 m)).setCell ⟨w.heap.size, 2, none⟩ (.int .u8 h)).setCell ⟨w.heap.size, 3, none⟩ (.int .u16 d)).setCell ⟨w.heap.size, 4, none⟩ (.bool true)).setCell ⟨w.heap.size, 5, none⟩ (.bool cy)).heap[w.heap.size + 1]? = some (.cells #[.int .u8 0, .int .u8 0, .int .u8 0, .int .u16 0, .bool false, .bool false] 34 (0, 0))) (below_set (below_set (below_set (below_set (below_set (below_set n2.out (Nat.le_refl _)) (Nat.le_refl _)) (Nat.le_refl _)) (Nat.le_refl _)) (Nat.le_refl _)) (Nat.le_refl _)) (Nat.le_succ _) (.int .u8 s) (.int .u8 m) (.int .u8 h) (.int .u16 d) (.bool true) (.bool cy)
 generalize ((((((((((((w1.setCell ⟨w.heap.size, 0, none⟩ (.int .u8 s)).setCell ⟨w.heap.size, 1, none⟩ (.int .u8 m)).setCell ⟨w.heap.size, 2, none⟩ (.int .u8 h)).setCell ⟨w.heap.size, 3, none⟩ (.int .u16 d)).setCell ⟨w.heap.size, 4, none⟩ (.bool true)).setCell ⟨w.heap.size, 5, none⟩ (.bool cy)).setCell ⟨w.heap.size + 1, 0, none⟩ (.int .u8 s)).setCell ⟨w.heap.size + 1, 1, none⟩ (.int .u8 m)).setCell ⟨w.heap.size + 1, 2, none⟩ (.int .u8 h)).setCell ⟨w.heap.size + 1, 3, none⟩ (.int .u16 d)).setCell ⟨w.heap.size + 1, 4, none⟩ (.bool true)).setCell ⟨w.heap.size + 1, 5, none⟩ (.bool cy)) = Y at m1 m2 ⊢
 obtain ⟨u0, u1, u2, u3, u4, u5⟩ := c6 m1
 exact bodyPost_ret (v := .agg #[.int .u8 s, .int .u8 m, .int .u8 h, .int .u16 d, .bool true, .bool cy]) (by simp [results, Try.results46, go_sem, u0, u1, u2, u3, u4, u5]) rfl ⟨rfl, m2⟩
theorem tick_sec (a0 a1 a2 a3 : Int) (a4 a5 : Bool) (s m h d : Int) (cy : Bool) (hn : clock_Norm.f a0 a1 a2 a3 a4 a5 = some (s, m, h, d, false, cy)) (hs : ¬ s = 59) (w : World) :
  Calls Try.prog 46 #[.agg #[.int .u8 a0, .int .u8 a1, .int .u8 a2, .int .u16 a3, .bool a4, .bool a5]] w fun e' w' => e' = .returned (.agg #[.int .u8 ((s + 1) % 64), .int .u8 m, .int .u8 h, .int .u16 d, .bool false, .bool cy]) ∧ Below w.heap.size w w' := by
 have HN := Aside0.mk hn
 clear hn
 go_enter Try.func46, Try.ntmps46
 go_wp2_with fail
 have BK := Aside0.mk (blk_alloc (blk_new w (.cells #[.int .u8 a0, .int .u8 a1, .int .u8 a2, .int .u16 a3, .bool a4, .bool a5] 34)) (.cells #[.int .u8 0, .int .u8 0, .int .u8 0, .int .u16 0, .bool false, .bool false] 34))
 have e1 : (w.alloc (.cells #[.int .u8 a0, .int .u8 a1, .int .u8 a2, .int .u16 a3, .bool a4, .bool a5] 34)).heap.size = w.heap.size + 1 := by simp
 have zN := heap_alloc_new (w.alloc (.cells #[.int .u8 a0, .int .u8 a1, .int .u8 a2, .int .u16 a3, .bool a4, .bool a5] 34)) (.cells #[.int .u8 0, .int .u8 0, .int .u8 0, .int .u16 0, .bool false, .bool false] 34)
 rw [e1] at zN
 have BR := Aside0.mk zN
 have HB := Aside0.mk (below_alloc (below_alloc (Below.refl w.heap.size w) (.cells #[.int .u8 a0, .int .u8 a1, .int .u8 a2, .int .u16 a3, .bool a4, .bool a5] 34)) (.cells #[.int .u8 0, .int .u8 0, .int .u8 0, .int .u16 0, .bool false, .bool false] 34))
 clear zN e1
 have hz : ((w.alloc (.cells #[.int .u8 a0, .int .u8 a1, .int .u8 a2, .int .u16 a3, .bool a4, .bool a5] 34)).alloc (.cells #[.int .u8 0, .int .u8 0, .int .u8 0, .int .u16 0, .bool false, .bool false] 34)).heap.size = w.heap.size + 2 := by simp
 generalize (w.alloc (.cells #[.int .u8 a0, .int .u8 a1, .int .u8 a2, .int .u16 a3, .bool a4, .bool a5] 34)).alloc (.cells #[.int .u8 0, .int .u8 0, .int .u8 0, .int .u16 0, .bool false, .bool false] 34) = W at *
 obtain ⟨c0, c1, c2, c3, c4, c5⟩ := c6 BK.out
 have fz := fun i => blk_frozen BK.out i
 go_step3
 go_wp2_with (first | (go_at_call 66; ((with_reducible refine (clock_Norm.calls a0 a1 a2 a3 a4 a5 (s) (m) (h) (d) (false) (cy) _ HN.out).mono ?_)); rintro e' w1 ⟨rfl, hb⟩; have n0 := Aside0.mk ((hb.block w.heap.size (by rw [hz]; omega)).trans BK.out); have n1 := Aside0.mk ((hb.block (w.heap.size + 1) (by rw [hz]; omega)).trans BR.out); have n2 := Aside0.mk (Below.trans HB.out (hb.mono (by rw [hz]; omega))); clear hb BK BR HB c0 c1 c2 c3 c4 c5 fz; obtain ⟨c0, c1, c2, c3, c4, c5⟩ := c6 n0.out; obtain ⟨z0, z1, z2, z3, z4, z5⟩ := c6 n1.out; have fz := fun i => blk_frozen n0.out i; have fr := fun i => blk_frozen n1.out i))
 obtain ⟨m0, m2⟩ := put6 n0.out n2.out (Nat.le_refl _) (.int .u8 s) (.int .u8 m) (.int .u8 h) (.int .u16 d) (.bool false) (.bool cy)
 have m1 := far6 (g := w.heap.size) n1.out (by omega) (.int .u8 s) (.int .u8 m) (.int .u8 h) (.int .u16 d) (.bool false) (.bool cy)
 generalize ((((((w1.setCell ⟨w.heap.size, 0, none⟩ (.int .u8 s)).setCell ⟨w.heap.size, 1, none⟩ (.int .u8 m)).setCell ⟨w.heap.size, 2, none⟩ (.int .u8 h)).setCell ⟨w.heap.size, 3, none⟩ (.int .u16 d)).setCell ⟨w.heap.size, 4, none⟩ (.bool false)).setCell ⟨w.heap.size, 5, none⟩ (.bool cy)) = X at m0 m1 m2 ⊢
 clear n0 n1 n2 c0 c1 c2 c3 c4 c5 z0 z1 z2 z3 z4 z5 fz fr hz
 have BK := Aside0.mk m0
 have BR := Aside0.mk m1
 have HB := Aside0.mk m2
 clear m0 m1 m2
 obtain ⟨c0, c1, c2, c3, c4, c5⟩ := c6 BK.out
 obtain ⟨z0, z1, z2, z3, z4, z5⟩ := c6 BR.out
 have fz := fun i => blk_frozen BK.out i
 have fr := fun i => blk_frozen BR.out i
 go_step3
 go_wp2
 go_rounds 5
 rw [Exit.noGoto_ret]
 obtain ⟨m1, m2⟩ := put6 (by repeat (first | (with_reducible exact BR.out) | refine blk_far ?_ (by simp) _) : (X.setCell ⟨w.heap.size, 0, none⟩ (.int .u8 ((s + 1) % 64))).heap[w.heap.size + 1]? = some (.cells #[.int .u8 0, .int .u8 0, .int .u8 0, .int .u16 0, .bool false, .bool false] 34 (0, 0))) (below_set HB.out (Nat.le_refl _)) (Nat.le_succ _) (.int .u8 ((s + 1) % 64)) (.int .u8 m) (.int .u8 h) (.int .u16 d) (.bool false) (.bool cy)
 generalize (((((((X.setCell ⟨w.heap.size, 0, none⟩ (.int .u8 ((s + 1) % 64))).setCell ⟨w.heap.size + 1, 0, none⟩ (.int .u8 ((s + 1) % 64))).setCell ⟨w.heap.size + 1, 1, none⟩ (.int .u8 m)).setCell ⟨w.heap.size + 1, 2, none⟩ (.int .u8 h)).setCell ⟨w.heap.size + 1, 3, none⟩ (.int .u16 d)).setCell ⟨w.heap.size + 1, 4, none⟩ (.bool false)).setCell ⟨w.heap.size + 1, 5, none⟩ (.bool cy)) = Y at m1 m2 ⊢
 obtain ⟨u0, u1, u2, u3, u4, u5⟩ := c6 m1
 exact bodyPost_ret (v := .agg #[.int .u8 ((s + 1) % 64), .int .u8 m, .int .u8 h, .int .u16 d, .bool false, .bool cy]) (by simp [results, Try.results46, go_sem, u0, u1, u2, u3, u4, u5]) rfl ⟨rfl, m2⟩
theorem tick_min (a0 a1 a2 a3 : Int) (a4 a5 : Bool) (m h d : Int) (cy : Bool) (hn : clock_Norm.f a0 a1 a2 a3 a4 a5 = some (59, m, h, d, false, cy)) (hs : ¬ m = 59) (w : World) :
  Calls Try.prog 46 #[.agg #[.int .u8 a0, .int .u8 a1, .int .u8 a2, .int .u16 a3, .bool a4, .bool a5]] w fun e' w' => e' = .returned (.agg #[.int .u8 0, .int .u8 ((m + 1) % 64), .int .u8 h, .int .u16 d, .bool false, .bool cy]) ∧ Below w.heap.size w w' := by
 have HN := Aside0.mk hn
 clear hn
 go_enter Try.func46, Try.ntmps46
 go_wp2_with fail
 have BK := Aside0.mk (blk_alloc (blk_new w (.cells #[.int .u8 a0, .int .u8 a1, .int .u8 a2, .int .u16 a3, .bool a4, .bool a5] 34)) (.cells #[.int .u8 0, .int .u8 0, .int .u8 0, .int .u16 0, .bool false, .bool false] 34))
 have e1 : (w.alloc (.cells #[.int .u8 a0, .int .u8 a1, .int .u8 a2, .int .u16 a3, .bool a4, .bool a5] 34)).heap.size = w.heap.size + 1 := by simp
 have zN := heap_alloc_new (w.alloc (.cells #[.int .u8 a0, .int .u8 a1, .int .u8 a2, .int .u16 a3, .bool a4, .bool a5] 34)) (.cells #[.int .u8 0, .int .u8 0, .int .u8 0, .int .u16 0, .bool false, .bool false] 34)
 rw [e1] at zN
 have BR := Aside0.mk zN
 have HB := Aside0.mk (below_alloc (below_alloc (Below.refl w.heap.size w) (.cells #[.int .u8 a0, .int .u8 a1, .int .u8 a2, .int .u16 a3, .bool a4, .bool a5] 34)) (.cells #[.int .u8 0, .int .u8 0, .int .u8 0, .int .u16 0, .bool false, .bool false] 34))
 clear zN e1
 have hz : ((w.alloc (.cells #[.int .u8 a0, .int .u8 a1, .int .u8 a2, .int .u16 a3, .bool a4, .bool a5] 34)).alloc (.cells #[.int .u8 0, .int .u8 0, .int .u8 0, .int .u16 0, .bool false, .bool false] 34)).heap.size = w.heap.size + 2 := by simp
 generalize (w.alloc (.cells #[.int .u8 a0, .int .u8 a1, .int .u8 a2, .int .u16 a3, .bool a4, .bool a5] 34)).alloc (.cells #[.int .u8 0, .int .u8 0, .int .u8 0, .int .u16 0, .bool false, .bool false] 34) = W at *
 obtain ⟨c0, c1, c2, c3, c4, c5⟩ := c6 BK.out
 have fz := fun i => blk_frozen BK.out i
 go_step3
 go_wp2_with (first | (go_at_call 66; ((with_reducible refine (clock_Norm.calls a0 a1 a2 a3 a4 a5 (59) (m) (h) (d) (false) (cy) _ HN.out).mono ?_)); rintro e' w1 ⟨rfl, hb⟩; have n0 := Aside0.mk ((hb.block w.heap.size (by rw [hz]; omega)).trans BK.out); have n1 := Aside0.mk ((hb.block (w.heap.size + 1) (by rw [hz]; omega)).trans BR.out); have n2 := Aside0.mk (Below.trans HB.out (hb.mono (by rw [hz]; omega))); clear hb BK BR HB c0 c1 c2 c3 c4 c5 fz; obtain ⟨c0, c1, c2, c3, c4, c5⟩ := c6 n0.out; obtain ⟨z0, z1, z2, z3, z4, z5⟩ := c6 n1.out; have fz := fun i => blk_frozen n0.out i; have fr := fun i => blk_frozen n1.out i))
 obtain ⟨m0, m2⟩ := put6 n0.out n2.out (Nat.le_refl _) (.int .u8 59) (.int .u8 m) (.int .u8 h) (.int .u16 d) (.bool false) (.bool cy)
 have m1 := far6 (g := w.heap.size) n1.out (by omega) (.int .u8 59) (.int .u8 m) (.int .u8 h) (.int .u16 d) (.bool false) (.bool cy)
 generalize ((((((w1.setCell ⟨w.heap.size, 0, none⟩ (.int .u8 59)).setCell ⟨w.heap.size, 1, none⟩ (.int .u8 m)).setCell ⟨w.heap.size, 2, none⟩ (.int .u8 h)).setCell ⟨w.heap.size, 3, none⟩ (.int .u16 d)).setCell ⟨w.heap.size, 4, none⟩ (.bool false)).setCell ⟨w.heap.size, 5, none⟩ (.bool cy)) = X at m0 m1 m2 ⊢
 clear n0 n1 n2 c0 c1 c2 c3 c4 c5 z0 z1 z2 z3 z4 z5 fz fr hz
 have BK := Aside0.mk m0
 have BR := Aside0.mk m1
 have HB := Aside0.mk m2
 clear m0 m1 m2
 obtain ⟨c0, c1, c2, c3, c4, c5⟩ := c6 BK.out
 obtain ⟨z0, z1, z2, z3, z4, z5⟩ := c6 BR.out
 have fz := fun i => blk_frozen BK.out i
 have fr := fun i => blk_frozen BR.out i
 go_step3
 go_wp2
 go_rounds 5
 rw [Exit.noGoto_ret]
 obtain ⟨m1, m2⟩ := put6 (by repeat (first | (with_reducible exact BR.out) | refine blk_far ?_ (by simp) _) : ((X.setCell ⟨w.heap.size, 0, none⟩ (.int .u8 0)).setCell ⟨w.heap.size, 1, none⟩ (.int .u8 ((m + 1) % 64))).heap[w.heap.size + 1]? = some (.cells #[.int .u8 0, .int .u8 0, .int .u8 0, .int .u16 0, .bool false, .bool false] 34 (0, 0))) (below_set (below_set HB.out (Nat.le_refl _)) (Nat.le_refl _)) (Nat.le_succ _) (.int .u8 0) (.int .u8 ((m + 1) % 64)) (.int .u8 h) (.int .u16 d) (.bool false) (.bool cy)
 generalize ((((((((X.setCell ⟨w.heap.size, 0, none⟩ (.int .u8 0)).setCell ⟨w.heap.size, 1, none⟩ (.int .u8 ((m + 1) % 64))).setCell ⟨w.heap.size + 1, 0, none⟩ (.int .u8 0)).setCell ⟨w.heap.size + 1, 1, none⟩ (.int .u8 ((m + 1) % 64))).setCell ⟨w.heap.size + 1, 2, none⟩ (.int .u8 h)).setCell ⟨w.heap.size + 1, 3, none⟩ (.int .u16 d)).setCell ⟨w.heap.size + 1, 4, none⟩ (.bool false)).setCell ⟨w.heap.size + 1, 5, none⟩ (.bool cy)) = Y at m1 m2 ⊢
 obtain ⟨u0, u1, u2, u3, u4, u5⟩ := c6 m1
 exact bodyPost_ret (v := .agg #[.int .u8 0, .int .u8 ((m + 1) % 64), .int .u8 h, .int .u16 d, .bool false, .bool cy]) (by simp [results, Try.results46, go_sem, u0, u1, u2, u3, u4, u5]) rfl ⟨rfl, m2⟩
theorem tick_hour (a0 a1 a2 a3 : Int) (a4 a5 : Bool) (h d : Int) (cy : Bool) (hn : clock_Norm.f a0 a1 a2 a3 a4 a5 = some (59, 59, h, d, false, cy)) (hs : ¬ h = 23) (w : World) :
  Calls Try.prog 46 #[.agg #[.int .u8 a0, .int .u8 a1, .int .u8 a2, .int .u16 a3, .bool a4, .bool a5]] w fun e' w' => e' = .returned (.agg #[.int .u8 0, .int .u8 0, .int .u8 ((h + 1) % 32), .int .u16 d, .bool false, .bool cy]) ∧ Below w.heap.size w w' := by
 have HN := Aside0.mk hn
 clear hn
 go_enter Try.func46, Try.ntmps46
 go_wp2_with fail
 have BK := Aside0.mk (blk_alloc (blk_new w (.cells #[.int .u8 a0, .int .u8 a1, .int .u8 a2, .int .u16 a3, .bool a4, .bool a5] 34)) (.cells #[.int .u8 0, .int .u8 0, .int .u8 0, .int .u16 0, .bool false, .bool false] 34))
 have e1 : (w.alloc (.cells #[.int .u8 a0, .int .u8 a1, .int .u8 a2, .int .u16 a3, .bool a4, .bool a5] 34)).heap.size = w.heap.size + 1 := by simp
 have zN := heap_alloc_new (w.alloc (.cells #[.int .u8 a0, .int .u8 a1, .int .u8 a2, .int .u16 a3, .bool a4, .bool a5] 34)) (.cells #[.int .u8 0, .int .u8 0, .int .u8 0, .int .u16 0, .bool false, .bool false] 34)
 rw [e1] at zN
 have BR := Aside0.mk zN
 have HB := Aside0.mk (below_alloc (below_alloc (Below.refl w.heap.size w) (.cells #[.int .u8 a0, .int .u8 a1, .int .u8 a2, .int .u16 a3, .bool a4, .bool a5] 34)) (.cells #[.int .u8 0, .int .u8 0, .int .u8 0, .int .u16 0, .bool false, .bool false] 34))
 clear zN e1
 have hz : ((w.alloc (.cells #[.int .u8 a0, .int .u8 a1, .int .u8 a2, .int .u16 a3, .bool a4, .bool a5] 34)).alloc (.cells #[.int .u8 0, .int .u8 0, .int .u8 0, .int .u16 0, .bool false, .bool false] 34)).heap.size = w.heap.size + 2 := by simp
 generalize (w.alloc (.cells #[.int .u8 a0, .int .u8 a1, .int .u8 a2, .int .u16 a3, .bool a4, .bool a5] 34)).alloc (.cells #[.int .u8 0, .int .u8 0, .int .u8 0, .int .u16 0, .bool false, .bool false] 34) = W at *
 obtain ⟨c0, c1, c2, c3, c4, c5⟩ := c6 BK.out
 have fz := fun i => blk_frozen BK.out i
 go_step3
 go_wp2_with (first | (go_at_call 66; ((with_reducible refine (clock_Norm.calls a0 a1 a2 a3 a4 a5 (59) (59) (h) (d) (false) (cy) _ HN.out).mono ?_)); rintro e' w1 ⟨rfl, hb⟩; have n0 := Aside0.mk ((hb.block w.heap.size (by rw [hz]; omega)).trans BK.out); have n1 := Aside0.mk ((hb.block (w.heap.size + 1) (by rw [hz]; omega)).trans BR.out); have n2 := Aside0.mk (Below.trans HB.out (hb.mono (by rw [hz]; omega))); clear hb BK BR HB c0 c1 c2 c3 c4 c5 fz; obtain ⟨c0, c1, c2, c3, c4, c5⟩ := c6 n0.out; obtain ⟨z0, z1, z2, z3, z4, z5⟩ := c6 n1.out; have fz := fun i => blk_frozen n0.out i; have fr := fun i => blk_frozen n1.out i))
 obtain ⟨m0, m2⟩ := put6 n0.out n2.out (Nat.le_refl _) (.int .u8 59) (.int .u8 59) (.int .u8 h) (.int .u16 d) (.bool false) (.bool cy)
 have m1 := far6 (g := w.heap.size) n1.out (by omega) (.int .u8 59) (.int .u8 59) (.int .u8 h) (.int .u16 d) (.bool false) (.bool cy)
 generalize ((((((w1.setCell ⟨w.heap.size, 0, none⟩ (.int .u8 59)).setCell ⟨w.heap.size, 1, none⟩ (.int .u8 59)).setCell ⟨w.heap.size, 2, none⟩ (.int .u8 h)).setCell ⟨w.heap.size, 3, none⟩ (.int .u16 d)).setCell ⟨w.heap.size, 4, none⟩ (.bool false)).setCell ⟨w.heap.size, 5, none⟩ (.bool cy)) = X at m0 m1 m2 ⊢
 clear n0 n1 n2 c0 c1 c2 c3 c4 c5 z0 z1 z2 z3 z4 z5 fz fr hz
 have BK := Aside0.mk m0
 have BR := Aside0.mk m1
 have HB := Aside0.mk m2
 clear m0 m1 m2
 obtain ⟨c0, c1, c2, c3, c4, c5⟩ := c6 BK.out
 obtain ⟨z0, z1, z2, z3, z4, z5⟩ := c6 BR.out
 have fz := fun i => blk_frozen BK.out i
 have fr := fun i => blk_frozen BR.out i
 go_step3
 go_wp2
 go_rounds 5
 rw [Exit.noGoto_ret]
 obtain ⟨m1, m2⟩ := put6 (by repeat (first | (with_reducible exact BR.out) | refine blk_far ?_ (by simp) _) : (((X.setCell ⟨w.heap.size, 0, none⟩ (.int .u8 0)).setCell ⟨w.heap.size, 1, none⟩ (.int .u8 0)).setCell ⟨w.heap.size, 2, none⟩ (.int .u8 ((h + 1) % 32))).heap[w.heap.size + 1]? = some (.cells #[.int .u8 0, .int .u8 0, .int .u8 0, .int .u16 0, .bool false, .bool false] 34 (0, 0))) (below_set (below_set (below_set HB.out (Nat.le_refl _)) (Nat.le_refl _)) (Nat.le_refl _)) (Nat.le_succ _) (.int .u8 0) (.int .u8 0) (.int .u8 ((h + 1) % 32)) (.int .u16 d) (.bool false) (.bool cy)
 generalize (((((((((X.setCell ⟨w.heap.size, 0, none⟩ (.int .u8 0)).setCell ⟨w.heap.size, 1, none⟩ (.int .u8 0)).setCell ⟨w.heap.size, 2, none⟩ (.int .u8 ((h + 1) % 32))).setCell ⟨w.heap.size + 1, 0, none⟩ (.int .u8 0)).setCell ⟨w.heap.size + 1, 1, none⟩ (.int .u8 0)).setCell ⟨w.heap.size + 1, 2, none⟩ (.int .u8 ((h + 1) % 32))).setCell ⟨w.heap.size + 1, 3, none⟩ (.int .u16 d)).setCell ⟨w.heap.size + 1, 4, none⟩ (.bool false)).setCell ⟨w.heap.size + 1, 5, none⟩ (.bool cy)) = Y at m1 m2 ⊢
 obtain ⟨u0, u1, u2, u3, u4, u5⟩ := c6 m1
 exact bodyPost_ret (v := .agg #[.int .u8 0, .int .u8 0, .int .u8 ((h + 1) % 32), .int .u16 d, .bool false, .bool cy]) (by simp [results, Try.results46, go_sem, u0, u1, u2, u3, u4, u5]) rfl ⟨rfl, m2⟩
theorem tick_day1 (a0 a1 a2 a3 : Int) (a4 a5 : Bool) (d : Int) (hn : clock_Norm.f a0 a1 a2 a3 a4 a5 = some (59, 59, 23, d, false, true))  (w : World) :
  Calls Try.prog 46 #[.agg #[.int .u8 a0, .int .u8 a1, .int .u8 a2, .int .u16 a3, .bool a4, .bool a5]] w fun e' w' => e' = .returned (.agg #[.int .u8 0, .int .u8 0, .int .u8 0, .int .u16 (Go.bits .and .u16 (IntKind.u16.wrap (d + 1)) 511), .bool false, .bool true]) ∧ Below w.heap.size w w' := by
 have HN := Aside0.mk hn
 clear hn
 go_enter Try.func46, Try.ntmps46
 go_wp2_with fail
 have BK := Aside0.mk (blk_alloc (blk_new w (.cells #[.int .u8 a0, .int .u8 a1, .int .u8 a2, .int .u16 a3, .bool a4, .bool a5] 34)) (.cells #[.int .u8 0, .int .u8 0, .int .u8 0, .int .u16 0, .bool false, .bool false] 34))
 have e1 : (w.alloc (.cells #[.int .u8 a0, .int .u8 a1, .int .u8 a2, .int .u16 a3, .bool a4, .bool a5] 34)).heap.size = w.heap.size + 1 := by simp
 have zN := heap_alloc_new (w.alloc (.cells #[.int .u8 a0, .int .u8 a1, .int .u8 a2, .int .u16 a3, .bool a4, .bool a5] 34)) (.cells #[.int .u8 0, .int .u8 0, .int .u8 0, .int .u16 0, .bool false, .bool false] 34)
 rw [e1] at zN
 have BR := Aside0.mk zN
 have HB := Aside0.mk (below_alloc (below_alloc (Below.refl w.heap.size w) (.cells #[.int .u8 a0, .int .u8 a1, .int .u8 a2, .int .u16 a3, .bool a4, .bool a5] 34)) (.cells #[.int .u8 0, .int .u8 0, .int .u8 0, .int .u16 0, .bool false, .bool false] 34))
 clear zN e1
 have hz : ((w.alloc (.cells #[.int .u8 a0, .int .u8 a1, .int .u8 a2, .int .u16 a3, .bool a4, .bool a5] 34)).alloc (.cells #[.int .u8 0, .int .u8 0, .int .u8 0, .int .u16 0, .bool false, .bool false] 34)).heap.size = w.heap.size + 2 := by simp
 generalize (w.alloc (.cells #[.int .u8 a0, .int .u8 a1, .int .u8 a2, .int .u16 a3, .bool a4, .bool a5] 34)).alloc (.cells #[.int .u8 0, .int .u8 0, .int .u8 0, .int .u16 0, .bool false, .bool false] 34) = W at *
 obtain ⟨c0, c1, c2, c3, c4, c5⟩ := c6 BK.out
 have fz := fun i => blk_frozen BK.out i
 go_step3
 go_wp2_with (first | (go_at_call 66; ((with_reducible refine (clock_Norm.calls a0 a1 a2 a3 a4 a5 (59) (59) (23) (d) (false) (true) _ HN.out).mono ?_)); rintro e' w1 ⟨rfl, hb⟩; have n0 := Aside0.mk ((hb.block w.heap.size (by rw [hz]; omega)).trans BK.out); have n1 := Aside0.mk ((hb.block (w.heap.size + 1) (by rw [hz]; omega)).trans BR.out); have n2 := Aside0.mk (Below.trans HB.out (hb.mono (by rw [hz]; omega))); clear hb BK BR HB c0 c1 c2 c3 c4 c5 fz; obtain ⟨c0, c1, c2, c3, c4, c5⟩ := c6 n0.out; obtain ⟨z0, z1, z2, z3, z4, z5⟩ := c6 n1.out; have fz := fun i => blk_frozen n0.out i; have fr := fun i => blk_frozen n1.out i))
 obtain ⟨m0, m2⟩ := put6 n0.out n2.out (Nat.le_refl _) (.int .u8 59) (.int .u8 59) (.int .u8 23) (.int .u16 d) (.bool false) (.bool true)
 have m1 := far6 (g := w.heap.size) n1.out (by omega) (.int .u8 59) (.int .u8 59) (.int .u8 23) (.int .u16 d) (.bool false) (.bool true)
 generalize ((((((w1.setCell ⟨w.heap.size, 0, none⟩ (.int .u8 59)).setCell ⟨w.heap.size, 1, none⟩ (.int .u8 59)).setCell ⟨w.heap.size, 2, none⟩ (.int .u8 23)).setCell ⟨w.heap.size, 3, none⟩ (.int .u16 d)).setCell ⟨w.heap.size, 4, none⟩ (.bool false)).setCell ⟨w.heap.size, 5, none⟩ (.bool true)) = X at m0 m1 m2 ⊢
 clear n0 n1 n2 c0 c1 c2 c3 c4 c5 z0 z1 z2 z3 z4 z5 fz fr hz
 have BK := Aside0.mk m0
 have BR := Aside0.mk m1
 have HB := Aside0.mk m2
 clear m0 m1 m2
 obtain ⟨c0, c1, c2, c3, c4, c5⟩ := c6 BK.out
 obtain ⟨z0, z1, z2, z3, z4, z5⟩ := c6 BR.out
 have fz := fun i => blk_frozen BK.out i
 have fr := fun i => blk_frozen BR.out i
 go_step3
 go_wp2
 go_rounds 5
 rw [Exit.noGoto_ret]
 obtain ⟨m1, m2⟩ := put6 (by repeat (first | (with_reducible exact BR.out) | refine blk_far ?_ (by simp) _) : (((((X.setCell ⟨w.heap.size, 0, none⟩ (.int .u8 0)).setCell ⟨w.heap.size, 1, none⟩ (.int .u8 0)).setCell ⟨w.heap.size, 2, none⟩ (.int .u8 0)).setCell ⟨w.heap.size, 5, none⟩ (.bool true)).setCell ⟨w.heap.size, 3, none⟩ (.int .u16 (Go.bits .and .u16 (IntKind.u16.wrap (d + 1)) 511))).heap[w.heap.size + 1]? = some (.cells #[.int .u8 0, .int .u8 0, .int .u8 0, .int .u16 0, .bool false, .bool false] 34 (0, 0))) (below_set (below_set (below_set (below_set (below_set HB.out (Nat.le_refl _)) (Nat.le_refl _)) (Nat.le_refl _)) (Nat.le_refl _)) (Nat.le_refl _)) (Nat.le_succ _) (.int .u8 0) (.int .u8 0) (.int .u8 0) (.int .u16 (Go.bits .and .u16 (IntKind.u16.wrap (d + 1)) 511)) (.bool false) (.bool true)
 generalize (((((((((((X.setCell ⟨w.heap.size, 0, none⟩ (.int .u8 0)).setCell ⟨w.heap.size, 1, none⟩ (.int .u8 0)).setCell ⟨w.heap.size, 2, none⟩ (.int .u8 0)).setCell ⟨w.heap.size, 5, none⟩ (.bool true)).setCell ⟨w.heap.size, 3, none⟩ (.int .u16 (Go.bits .and .u16 (IntKind.u16.wrap (d + 1)) 511))).setCell ⟨w.heap.size + 1, 0, none⟩ (.int .u8 0)).setCell ⟨w.heap.size + 1, 1, none⟩ (.int .u8 0)).setCell ⟨w.heap.size + 1, 2, none⟩ (.int .u8 0)).setCell ⟨w.heap.size + 1, 3, none⟩ (.int .u16 (Go.bits .and .u16 (IntKind.u16.wrap (d + 1)) 511))).setCell ⟨w.heap.size + 1, 4, none⟩ (.bool false)).setCell ⟨w.heap.size + 1, 5, none⟩ (.bool true)) = Y at m1 m2 ⊢
 obtain ⟨u0, u1, u2, u3, u4, u5⟩ := c6 m1
 exact bodyPost_ret (v := .agg #[.int .u8 0, .int .u8 0, .int .u8 0, .int .u16 (Go.bits .and .u16 (IntKind.u16.wrap (d + 1)) 511), .bool false, .bool true]) (by simp [results, Try.results46, go_sem, u0, u1, u2, u3, u4, u5]) rfl ⟨rfl, m2⟩
theorem tick_day0 (a0 a1 a2 a3 : Int) (a4 a5 : Bool) (d : Int) (hn : clock_Norm.f a0 a1 a2 a3 a4 a5 = some (59, 59, 23, d, false, false))  (w : World) :
  Calls Try.prog 46 #[.agg #[.int .u8 a0, .int .u8 a1, .int .u8 a2, .int .u16 a3, .bool a4, .bool a5]] w fun e' w' => e' = .returned (.agg #[.int .u8 0, .int .u8 0, .int .u8 0, .int .u16 (Go.bits .and .u16 (IntKind.u16.wrap (d + 1)) 511), .bool false, .bool (d == 511)]) ∧ Below w.heap.size w w' := by
 have HN := Aside0.mk hn
 clear hn
 go_enter Try.func46, Try.ntmps46
 go_wp2_with fail
 have BK := Aside0.mk (blk_alloc (blk_new w (.cells #[.int .u8 a0, .int .u8 a1, .int .u8 a2, .int .u16 a3, .bool a4, .bool a5] 34)) (.cells #[.int .u8 0, .int .u8 0, .int .u8 0, .int .u16 0, .bool false, .bool false] 34))
 have e1 : (w.alloc (.cells #[.int .u8 a0, .int .u8 a1, .int .u8 a2, .int .u16 a3, .bool a4, .bool a5] 34)).heap.size = w.heap.size + 1 := by simp
 have zN := heap_alloc_new (w.alloc (.cells #[.int .u8 a0, .int .u8 a1, .int .u8 a2, .int .u16 a3, .bool a4, .bool a5] 34)) (.cells #[.int .u8 0, .int .u8 0, .int .u8 0, .int .u16 0, .bool false, .bool false] 34)
 rw [e1] at zN
 have BR := Aside0.mk zN
 have HB := Aside0.mk (below_alloc (below_alloc (Below.refl w.heap.size w) (.cells #[.int .u8 a0, .int .u8 a1, .int .u8 a2, .int .u16 a3, .bool a4, .bool a5] 34)) (.cells #[.int .u8 0, .int .u8 0, .int .u8 0, .int .u16 0, .bool false, .bool false] 34))
 clear zN e1
 have hz : ((w.alloc (.cells #[.int .u8 a0, .int .u8 a1, .int .u8 a2, .int .u16 a3, .bool a4, .bool a5] 34)).alloc (.cells #[.int .u8 0, .int .u8 0, .int .u8 0, .int .u16 0, .bool false, .bool false] 34)).heap.size = w.heap.size + 2 := by simp
 generalize (w.alloc (.cells #[.int .u8 a0, .int .u8 a1, .int .u8 a2, .int .u16 a3, .bool a4, .bool a5] 34)).alloc (.cells #[.int .u8 0, .int .u8 0, .int .u8 0, .int .u16 0, .bool false, .bool false] 34) = W at *
 obtain ⟨c0, c1, c2, c3, c4, c5⟩ := c6 BK.out
 have fz := fun i => blk_frozen BK.out i
 go_step3
 go_wp2_with (first | (go_at_call 66; ((with_reducible refine (clock_Norm.calls a0 a1 a2 a3 a4 a5 (59) (59) (23) (d) (false) (false) _ HN.out).mono ?_)); rintro e' w1 ⟨rfl, hb⟩; have n0 := Aside0.mk ((hb.block w.heap.size (by rw [hz]; omega)).trans BK.out); have n1 := Aside0.mk ((hb.block (w.heap.size + 1) (by rw [hz]; omega)).trans BR.out); have n2 := Aside0.mk (Below.trans HB.out (hb.mono (by rw [hz]; omega))); clear hb BK BR HB c0 c1 c2 c3 c4 c5 fz; obtain ⟨c0, c1, c2, c3, c4, c5⟩ := c6 n0.out; obtain ⟨z0, z1, z2, z3, z4, z5⟩ := c6 n1.out; have fz := fun i => blk_frozen n0.out i; have fr := fun i => blk_frozen n1.out i))
 obtain ⟨m0, m2⟩ := put6 n0.out n2.out (Nat.le_refl _) (.int .u8 59) (.int .u8 59) (.int .u8 23) (.int .u16 d) (.bool false) (.bool false)
 have m1 := far6 (g := w.heap.size) n1.out (by omega) (.int .u8 59) (.int .u8 59) (.int .u8 23) (.int .u16 d) (.bool false) (.bool false)
 generalize ((((((w1.setCell ⟨w.heap.size, 0, none⟩ (.int .u8 59)).setCell ⟨w.heap.size, 1, none⟩ (.int .u8 59)).setCell ⟨w.heap.size, 2, none⟩ (.int .u8 23)).setCell ⟨w.heap.size, 3, none⟩ (.int .u16 d)).setCell ⟨w.heap.size, 4, none⟩ (.bool false)).setCell ⟨w.heap.size, 5, none⟩ (.bool false)) = X at m0 m1 m2 ⊢
 clear n0 n1 n2 c0 c1 c2 c3 c4 c5 z0 z1 z2 z3 z4 z5 fz fr hz
 have BK := Aside0.mk m0
 have BR := Aside0.mk m1
 have HB := Aside0.mk m2
 clear m0 m1 m2
 obtain ⟨c0, c1, c2, c3, c4, c5⟩ := c6 BK.out
 obtain ⟨z0, z1, z2, z3, z4, z5⟩ := c6 BR.out
 have fz := fun i => blk_frozen BK.out i
 have fr := fun i => blk_frozen BR.out i
 go_step3
 go_wp2
 go_rounds 5
 rw [Exit.noGoto_ret]
 obtain ⟨m1, m2⟩ := put6 (by repeat (first | (with_reducible exact BR.out) | refine blk_far ?_ (by simp) _) : (((((X.setCell ⟨w.heap.size, 0, none⟩ (.int .u8 0)).setCell ⟨w.heap.size, 1, none⟩ (.int .u8 0)).setCell ⟨w.heap.size, 2, none⟩ (.int .u8 0)).setCell ⟨w.heap.size, 5, none⟩ (.bool (d == 511))).setCell ⟨w.heap.size, 3, none⟩ (.int .u16 (Go.bits .and .u16 (IntKind.u16.wrap (d + 1)) 511))).heap[w.heap.size + 1]? = some (.cells #[.int .u8 0, .int .u8 0, .int .u8 0, .int .u16 0, .bool false, .bool false] 34 (0, 0))) (below_set (below_set (below_set (below_set (below_set HB.out (Nat.le_refl _)) (Nat.le_refl _)) (Nat.le_refl _)) (Nat.le_refl _)) (Nat.le_refl _)) (Nat.le_succ _) (.int .u8 0) (.int .u8 0) (.int .u8 0) (.int .u16 (Go.bits .and .u16 (IntKind.u16.wrap (d + 1)) 511)) (.bool false) (.bool (d == 511))
 generalize (((((((((((X.setCell ⟨w.heap.size, 0, none⟩ (.int .u8 0)).setCell ⟨w.heap.size, 1, none⟩ (.int .u8 0)).setCell ⟨w.heap.size, 2, none⟩ (.int .u8 0)).setCell ⟨w.heap.size, 5, none⟩ (.bool (d == 511))).setCell ⟨w.heap.size, 3, none⟩ (.int .u16 (Go.bits .and .u16 (IntKind.u16.wrap (d + 1)) 511))).setCell ⟨w.heap.size + 1, 0, none⟩ (.int .u8 0)).setCell ⟨w.heap.size + 1, 1, none⟩ (.int .u8 0)).setCell ⟨w.heap.size + 1, 2, none⟩ (.int .u8 0)).setCell ⟨w.heap.size + 1, 3, none⟩ (.int .u16 (Go.bits .and .u16 (IntKind.u16.wrap (d + 1)) 511))).setCell ⟨w.heap.size + 1, 4, none⟩ (.bool false)).setCell ⟨w.heap.size + 1, 5, none⟩ (.bool (d == 511))) = Y at m1 m2 ⊢
 obtain ⟨u0, u1, u2, u3, u4, u5⟩ := c6 m1
 exact bodyPost_ret (v := .agg #[.int .u8 0, .int .u8 0, .int .u8 0, .int .u16 (Go.bits .and .u16 (IntKind.u16.wrap (d + 1)) 511), .bool false, .bool (d == 511)]) (by simp [results, Try.results46, go_sem, u0, u1, u2, u3, u4, u5]) rfl ⟨rfl, m2⟩
def tickT (s m h d : Int) (ht cy : Bool) : Int × Int × Int × Int × Bool × Bool :=
 if ht = true then (s, m, h, d, true, cy) else
 if ¬ s = 59 then ((s + 1) % 64, m, h, d, false, cy) else
 if ¬ m = 59 then (0, (m + 1) % 64, h, d, false, cy) else
 if ¬ h = 23 then (0, 0, (h + 1) % 32, d, false, cy) else
 (0, 0, 0, Go.bits .and .u16 (IntKind.u16.wrap (d + 1)) 511, false, if cy = true then true else d == 511)
def clock_Tick.f (a0_0 a0_1 a0_2 a0_3 : Int) (a0_4 a0_5 : Bool) : Option (Int × Int × Int × Int × Bool × Bool) :=
 (clock_Norm.f a0_0 a0_1 a0_2 a0_3 a0_4 a0_5).bind fun t => some (tickT t.1 t.2.1 t.2.2.1 t.2.2.2.1 t.2.2.2.2.1 t.2.2.2.2.2)
theorem clock_Tick.calls (a0_0 a0_1 a0_2 a0_3 : Int) (a0_4 a0_5 : Bool) (r1 r2 r3 r4 : Int) (r5 r6 : Bool) (w : World) (h : clock_Tick.f a0_0 a0_1 a0_2 a0_3 a0_4 a0_5 = some (r1, r2, r3, r4, r5, r6)) :
  Calls Try.prog 46 #[.agg #[.int .u8 a0_0, .int .u8 a0_1, .int .u8 a0_2, .int .u16 a0_3, .bool a0_4, .bool a0_5]] w fun e w' => e = .returned (.agg #[.int .u8 r1, .int .u8 r2, .int .u8 r3, .int .u16 r4, .bool r5, .bool r6]) ∧ Below w.heap.size w w' := by
 unfold clock_Tick.f at h
 obtain ⟨⟨s, m, hh, d, ht, cy⟩, hn, h⟩ := Option.bind_eq_some_iff.mp h
 have h := Option.some.inj h
 dsimp only at h
 unfold tickT at h
 by_cases c0 : ht = true
 ·subst c0
  rw [if_pos rfl] at h
  cases h
  exact tick_halt _ _ _ _ _ _ _ _ _ _ _ hn w
 have c0 : ht = false := by simpa using c0
 subst c0
 rw [if_neg (by simp)] at h
 by_cases c1 : s = 59
 ·subst c1
  rw [if_neg (by simp)] at h
  by_cases c2 : m = 59
  ·subst c2
   rw [if_neg (by simp)] at h
   by_cases c3 : hh = 23
   ·subst c3
    rw [if_neg (by simp)] at h
    cases cy with
    | true => cases h; exact tick_day1 _ _ _ _ _ _ _ hn w
    | false => cases h; exact tick_day0 _ _ _ _ _ _ _ hn w
   ·rw [if_pos c3] at h
    cases h
    exact tick_hour _ _ _ _ _ _ _ _ _ hn c3 w
  ·rw [if_pos c2] at h
   cases h
   exact tick_min _ _ _ _ _ _ _ _ _ _ hn c2 w
 ·rw [if_pos c1] at h
  cases h
  exact tick_sec _ _ _ _ _ _ _ _ _ _ _ hn c1 w
end Go.Proofs.Ytmjjojbedllmgaa.Hand
end
section
namespace Go.Proofs.Ytmjjojbedllmgaa.G
open Go.RowKit Go.Proofs.YtmjjojbedllmgaaW.PrintWords Go.Proofs.YtmjjojbedllmgaaW.PrintLast Go.Proofs.YtmjjojbedllmgaaW.PrintMore
def clock_bit.f (a0 : Bool) (a1 : Int) : Option (Int) := if a0 = true then (some a1) else (some 0)
theorem clock_bit.calls (a0 : Bool) (a1 : Int) (r : Int) (w : World) (h : clock_bit.f a0 a1 = some r) :
  Calls Try.prog 67 #[.bool a0, .int .u8 a1] w fun e w' => e = .returned (.int .u8 r) ∧ Drawn0 w w' := by
 have H : (if a0 = true then (some a1) else (some 0)) = some r := h
 clear h
 by_cases c3 : a0 = true
 ·subst c3
  have H1 : (some a1) = some r := by rw [if_pos rfl] at H; exact H
  clear H
  have H := H1
  clear H1
  obtain rfl := Option.some.inj H
  go_enter Try.func67, Try.ntmps67
  go_wp2
  go_ret
  exact ⟨by first | rfl | (simp; done) | (simp [*]; done), by repeat (first | exact Drawn0.refl _ | apply Drawn0.step)⟩
 ·replace c3 := Bool.eq_false_iff.mpr c3
  subst c3
  have H1 : (some 0) = some r := by rw [if_neg (show ¬ (false = true) by decide)] at H; exact H
  clear H
  have H := H1
  clear H1
  obtain rfl := Option.some.inj H
  go_enter Try.func67, Try.ntmps67
  go_wp2
  go_ret
  exact ⟨by first | rfl | (simp; done) | (simp [*]; done), by repeat (first | exact Drawn0.refl _ | apply Drawn0.step)⟩
end Go.Proofs.Ytmjjojbedllmgaa.G
end
