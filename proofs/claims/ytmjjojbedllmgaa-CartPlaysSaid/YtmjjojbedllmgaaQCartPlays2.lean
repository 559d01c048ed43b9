/- What the proof of the statement CartPlays stands on, part 2. (Packed by pack.py out of this session's texts.) -/
import Derived.Deep.MidRow
import Derived.Deep.RegionWith
import Derived.Deep.RegionLaw
import Derived.BigRegion
import Derived.Handy
import Derived.OpenShut
import Derived.Laws.BitsAllLaws
import Derived.Laws.BitsLemmas
import Derived.RowKit
import Derived.Deep.RegionHeld3
import Derived.Deep.QuietTactic
import Derived.BigQuiet
import Derived.Test.YtmjjojbedllmgaaQCartPlays0
import Derived.Test.YtmjjojbedllmgaaQCartPlays1
set_option linter.unusedVariables false
set_option linter.unusedSimpArgs false
set_option maxRecDepth 100000
set_option maxHeartbeats 20000000
open Go.RowKit Go.Proofs.YtmjjojbedllmgaaW.PrintWords Go.Proofs.YtmjjojbedllmgaaW.PrintLast Go.Proofs.YtmjjojbedllmgaaW.PrintMore Go.Proofs.Ytmjjojbedllmgaa.G
namespace Go.Proofs.Ytmjjojbedllmgaa.Hand
theorem new_bad (A : Option Addr) (c : Nat) (l : List Int) (r1 : ByteArray) (r2 r3 : Int) (r4 r5 r6 : Bool) (r7 r8 r9 r10 e : Int) (w : World) (hr : Kd.C (Kd.int .u8) w A l.length l) (hc : l.length ≤ c) (h : aU.f l = some (r1, r2, r3, r4, r5, r6, r7, r8, r9, r10, e)) (he : ¬ e = 0) :
  Calls Try.prog 10 #[.slice A l.length c] w fun e' w' => e' = .returned (.tuple #[.pointer none, .int .i64 e]) ∧ Below w.heap.size w w' := by
 have HP := ab.mk (aU.calls A c l _ _ _ _ _ _ _ _ _ _ _ w hr hc h)
 clear hr hc h
 go_enter Try.func10, Try.ntmps10
 go_wp2_with fail
 refine HP.out.mono ?_
 rintro e' w1 ⟨rfl, hb⟩
 have HB := ab.mk hb
 clear hb HP
 go_wp2
 go_returns
 exact ⟨rfl, ac HB.out _⟩
theorem makeRun (w : World) (n : Int) (h0 : 0 ≤ n) (h1 : n ≤ 1048576) :
  (Instr.makeSlice 22 (.int .i64 n) (.int .i64 n)).run Try.prog w = .ok (.slice (some ⟨w.heap.size, 0, none⟩) n.toNat n.toNat) (w.alloc (.cells ((List.replicate n.toNat (0 : Int)).map (Value.int .u8)).toArray 5)) := by
 obtain ⟨i, hi, hz0, hz1, hz2⟩ := info_parts info5
 have q := run_make (P := Try.prog) w 22 5 i (.int .u8 0) Try.underlying22 hi hz0 .i64 .i64 n n (by omega) (by omega) (by rw [hz2]; omega) (by omega)
 rw [hz1, Nat.mul_one] at q
 have e : madeCells (Value.int .u8 0).cells n.toNat = ((List.replicate n.toNat (0 : Int)).map (Value.int .u8)).toArray := by
  apply Array.toList_inj.mp
  rw [show (Value.int .u8 0).cells = #[Value.int .u8 0] from rfl, toList_madeCells_one]
  simp
 rw [e] at q
 exact q
theorem app_step {ops : Array Oper} {o : Oper} {a : Act} {W : World} {K : Act → World → Prop} {Q : Exit → Act → World → Prop} (hw : Region.wanted o (yielded ops a.tmps) = true) (s x : Operand)
  (ho : o.op = .call { callee := .builtin .append, args := #[s, x], argTypes := #[22, 22] }) (g : Nat) (A : Option Addr) (c : Nat) (l : List Int) (hs : a.eval s = .slice (some ⟨g, 0, none⟩) 0 0) (hx : a.eval x = .slice A l.length c)
  (hrow : RowL W g []) (hC : Kd.C (Kd.int .u8) W A l.length l) (hl : l.length ≤ 16777216) (h0 : 0 < l.length)
  (h : ∀ (gi ci : Nat) (w1 : World), (gi = g ∨ W.heap.size ≤ gi) → HeadL w1 gi l → l.length ≤ ci → Upto (fun k => k = g) W w1 → K (a.put o.dst (.slice (some ⟨gi, 0, none⟩) l.length ci)) w1) :
  if Region.wanted o (yielded ops a.tmps) = true then Oper.wp Try.prog o a W K Q else K (a.put o.dst undef) W := by
 refine Kd.R_append_rows_step (Kd.int .u8) (w0 := W) g hw s x 22 5 (.int .u8 0) 1 ho Try.underlying22 info5 rfl (by decide) (by omega) (.slice (some ⟨g, 0, none⟩) ([] : List Int).length ([] : List Int).length) [] l _ _ _ (fun _ => True) (fun _ => False) hs hx (hrow.row (Nat.le_refl _) (by decide)) hC (fun _ _ h => h) (fun _ h => h.elim) (fun _ _ => trivial) (Below.refl _ _) (Nat.le_of_lt hrow.lt) (by simp; omega) ?_
 intro v1 w1 hR hb hg hat
 rw [List.nil_append] at hR
 rcases (Kd.own_of_R hR).2 with ⟨rfl, hz⟩ | ⟨gi, ci, cur, rfl, hgi, hcur, hci, _, _, htk⟩
 ·omega
 refine h gi ci w1 ?_ ⟨cur, hcur, fun i hi => ?_⟩ hci ⟨hg.os, hg.tape, hg.output, hg.size, fun k hk hne => hg.block k hk (fun q => hne (Option.some.inj q))⟩
 ·rcases hat with q | ⟨b, q, hb2⟩
  ·exact Or.inl (Option.some.inj q)
  ·exact Or.inr (by have := Option.some.inj q; dsimp only at hb2 this ⊢; omega)
 ·have q : (cur.toList.take (l.length * 1))[i]? = (encs (Value.int .u8) l)[i]? := by rw [htk]
  rw [List.getElem?_take_of_lt (by omega)] at q
  rw [← Array.getElem?_toList, q]
  simp [encs, rd, hi]
def Ct.new (h : Hd) (l : List Int) : Ct := ⟨⟨h.mp, false, 0, 0, 0, false⟩, ⟨0, 0, 0, 0, false, false⟩, ⟨0, 0, 0, 0, false, false⟩, 255, h, l, List.replicate h.sz.toNat 0⟩
def Ct.new0 (h : Hd) (l : List Int) : Ct := ⟨⟨0, false, 0, 0, 0, false⟩, ⟨0, 0, 0, 0, false, false⟩, ⟨0, 0, 0, 0, false, false⟩, 0, h, l, List.replicate h.sz.toNat 0⟩
theorem new0_cells (h : Hd) (l : List Int) (b gi ci gr : Nat) : ((Ct.new0 h l).cells ⟨b, gi, ci, gr⟩).toArray = #[.int .i64 0, .bool false, .int .u8 0, .int .u8 0, .int .u8 0, .bool false, .int .u8 0, .int .u8 0, .int .u8 0, .int .u16 0, .bool false, .bool false, .int .u8 0, .int .u8 0, .int .u8 0, .int .u16 0, .bool false, .bool false, .int .u8 0, .string h.t, .int .u8 h.kd, .int .i64 h.mp, .bool h.rm, .bool h.bt, .bool h.ck, .int .i64 h.bk, .int .i64 h.sz, .int .u8 h.sm, .int .u16 h.wh, .slice (some ⟨gi, 0, none⟩) l.length ci, .slice (some ⟨gr, 0, none⟩) h.sz.toNat h.sz.toNat, .bool true] := by simp [Ct.cells, Ct.new0]
theorem HeadL.alloc {w : World} {g : Nat} {L : List Int} (h : HeadL w g L) (o : Obj) : HeadL (w.alloc o) g L := h.of_block (Below.heap_alloc w o g h.lt)
theorem row_zero {w : World} {g n : Nat} (h : w.heap[g]? = some (.cells (Array.replicate n (Value.int .u8 0)) 5 (0, 0))) : RowL w g (List.replicate n 0) := by
 unfold RowL
 rw [h]
 simp
theorem cells_new (h : Hd) (l : List Int) (a : Ad) : ((Ct.new0 h l).cells a).take 0 ++ [.int .i64 h.mp, .bool false, .int .u8 0, .int .u8 0, .int .u8 0, .bool false, .int .u8 0, .int .u8 0, .int .u8 0, .int .u16 0, .bool false, .bool false, .int .u8 0, .int .u8 0, .int .u8 0, .int .u16 0, .bool false, .bool false, .int .u8 255] ++ ((Ct.new0 h l).cells a).drop (0 + ([.int .i64 h.mp, .bool false, .int .u8 0, .int .u8 0, .int .u8 0, .bool false, .int .u8 0, .int .u8 0, .int .u8 0, .int .u16 0, .bool false, .bool false, .int .u8 0, .int .u8 0, .int .u8 0, .int .u16 0, .bool false, .bool false, .int .u8 255] : List Value).length) = (Ct.new h l).cells a := by simp [Ct.cells, Ct.new0, Ct.new]
theorem blk_setCells {w : World} {g : Nat} {e : TypeId} {l : List Value} (h : w.heap[g]? = some (.cells l.toArray e (0, 0))) (o : Nat) (vs : List Value) (hl : o + vs.length ≤ l.length) : (w.setCells g o vs).heap[g]? = some (.cells (l.take o ++ vs ++ l.drop (o + vs.length)).toArray e (0, 0)) := by
 obtain ⟨cur, h1, h2, h3⟩ := setCells_row vs o w _ h (by simpa using hl)
 rw [h1, ← h3]
theorem cB (w : World) (g o : Nat) (vs : List Value) : Upto (fun k => k = g) w (w.setCells g o vs) := by
 obtain ⟨h1, h2, h3, h4⟩ := setCells_same g vs o w
 exact ⟨h1, h2, h3, Nat.le_of_eq h4.symm, fun k _ hk => cv vs o k hk⟩
theorem blk_two (w : World) (A B : Obj) : ((w.alloc A).alloc B).heap[w.heap.size + 1]? = some B := by
 have q := aC (w.alloc A) B
 simpa using q
theorem new_ok (A : Option Addr) (c : Nat) (l : List Int) (h : Hd) (w : World) (hr : Kd.C (Kd.int .u8) w A l.length l) (hc : l.length ≤ c) (hp : aU.f l = some (h.t, h.kd, h.mp, h.rm, h.bt, h.ck, h.bk, h.sz, h.sm, h.wh, 0)) (hm : co.f h.mp = some (h.mp, false, 0, 0, 0, false, 0)) (hs0 : 0 ≤ h.sz) (hs1 : h.sz ≤ 1048576) (hl : l.length ≤ 16777216) (h0l : 0 < l.length) :
  Calls Try.prog 10 #[.slice A l.length c] w fun e' w' => ∃ a : Ad, e' = .returned (.tuple #[.pointer (some ⟨a.b, 0, none⟩), .int .i64 0]) ∧ ax w' a (Ct.new h l) ∧ w.heap.size ≤ a.b ∧ w.heap.size ≤ a.gi ∧ w.heap.size ≤ a.gr ∧ Below w.heap.size w w' := by
 have HP := ab.mk (aU.calls A c l _ _ _ _ _ _ _ _ _ _ _ w hr hc hp)
 have HM := ab.mk hm
 have HR := ab.mk hr
 have HL := ab.mk hl
 clear hr hc hp hm hl
 go_enter Try.func10, Try.ntmps10
 go_wp2_with fail
 refine HP.out.mono ?_
 rintro e' w1 ⟨rfl, hb⟩
 have HB := ab.mk hb
 clear hb HP
 go_wp2_with fail
 have b4 := aC w1 (.cells #[.string h.t, .int .u8 h.kd, .int .i64 h.mp, .bool h.rm, .bool h.bt, .bool h.ck, .int .i64 h.bk, .int .i64 h.sz, .int .u8 h.sm, .int .u16 h.wh] 30)
 have hB := ac HB.out (.cells #[.string h.t, .int .u8 h.kd, .int .i64 h.mp, .bool h.rm, .bool h.bt, .bool h.ck, .int .i64 h.bk, .int .i64 h.sz, .int .u8 h.sm, .int .u16 h.wh] 30)
 generalize w1.alloc (.cells #[.string h.t, .int .u8 h.kd, .int .i64 h.mp, .bool h.rm, .bool h.bt, .bool h.ck, .int .i64 h.bk, .int .i64 h.sz, .int .u8 h.sm, .int .u16 h.wh] 30) = W2 at b4 hB ⊢
 refine (co.calls _ _ _ _ _ _ _ _ _ HM.out).mono ?_
 rintro e' w2 ⟨rfl, hb⟩
 have B4 := ab.mk (af b4 hb)
 have HB2 := ab.mk (ak hB hb)
 clear hb b4 hB HB
 go_wp2_with fail
 have b4 := ah B4.out (.cells #[.int .i64 h.mp, .bool false, .int .u8 0, .int .u8 0, .int .u8 0, .bool false] 32)
 have b6 := aC w2 (.cells #[.int .i64 h.mp, .bool false, .int .u8 0, .int .u8 0, .int .u8 0, .bool false] 32)
 have hB := ac HB2.out (.cells #[.int .i64 h.mp, .bool false, .int .u8 0, .int .u8 0, .int .u8 0, .bool false] 32)
 clear B4 HB2
 generalize w2.alloc (.cells #[.int .i64 h.mp, .bool false, .int .u8 0, .int .u8 0, .int .u8 0, .bool false] 32) = W3 at b4 b6 hB ⊢
 have c0 : W3.cell? ⟨w1.heap.size, 0, none⟩ = some (.string h.t) := (aa b4 0).trans rfl
 have c1 : W3.cell? ⟨w1.heap.size, 1, none⟩ = some (.int .u8 h.kd) := (aa b4 1).trans rfl
 have c2 : W3.cell? ⟨w1.heap.size, 2, none⟩ = some (.int .i64 h.mp) := (aa b4 2).trans rfl
 have c3 : W3.cell? ⟨w1.heap.size, 3, none⟩ = some (.bool h.rm) := (aa b4 3).trans rfl
 have c4 : W3.cell? ⟨w1.heap.size, 4, none⟩ = some (.bool h.bt) := (aa b4 4).trans rfl
 have c5 : W3.cell? ⟨w1.heap.size, 5, none⟩ = some (.bool h.ck) := (aa b4 5).trans rfl
 have c6 : W3.cell? ⟨w1.heap.size, 6, none⟩ = some (.int .i64 h.bk) := (aa b4 6).trans rfl
 have c7 : W3.cell? ⟨w1.heap.size, 7, none⟩ = some (.int .i64 h.sz) := (aa b4 7).trans rfl
 have c8 : W3.cell? ⟨w1.heap.size, 8, none⟩ = some (.int .u8 h.sm) := (aa b4 8).trans rfl
 have c9 : W3.cell? ⟨w1.heap.size, 9, none⟩ = some (.int .u16 h.wh) := (aa b4 9).trans rfl
 have B4 := ab.mk b4
 have B6 := ab.mk b6
 have HB := ab.mk hB
 clear b4 b6 hB
 have hmk : ∀ W : World, (Instr.makeSlice 22 (.int .i64 h.sz) (.int .i64 h.sz)).run Try.prog W = .ok (.slice (some ⟨W.heap.size, 0, none⟩) h.sz.toNat h.sz.toNat) (W.alloc (.cells ((List.replicate h.sz.toNat (0 : Int)).map (Value.int .u8)).toArray 5)) := fun W => makeRun W h.sz hs0 hs1
 have HRW := ab.mk (Kd.C_below HR.out HB.out)
 have hlt := aZ B4.out
 have n0 : ¬ w1.heap.size = W3.heap.size := by omega
 have n1 : ¬ w1.heap.size = W3.heap.size + 1 := by omega
 go_cut [7] from 25 to 33 (fun v w9 => ∃ a : Ad, v = .pointer (some ⟨a.b, 0, none⟩) ∧ ab (ax w9 a (Ct.new0 h l)) ∧ ab (W3.heap.size ≤ a.b ∧ W3.heap.size ≤ a.gi ∧ W3.heap.size ≤ a.gr ∧ l.length ≤ a.ci) ∧ ab (Below W3.heap.size W3 w9))
 case first =>
  go_region_held3 (fun w' => w'.cell? ⟨w1.heap.size, 0, none⟩ = some (.string h.t) ∧ w'.cell? ⟨w1.heap.size, 1, none⟩ = some (.int .u8 h.kd) ∧ w'.cell? ⟨w1.heap.size, 2, none⟩ = some (.int .i64 h.mp) ∧ w'.cell? ⟨w1.heap.size, 3, none⟩ = some (.bool h.rm) ∧ w'.cell? ⟨w1.heap.size, 4, none⟩ = some (.bool h.bt) ∧ w'.cell? ⟨w1.heap.size, 5, none⟩ = some (.bool h.ck) ∧ w'.cell? ⟨w1.heap.size, 6, none⟩ = some (.int .i64 h.bk) ∧ w'.cell? ⟨w1.heap.size, 7, none⟩ = some (.int .i64 h.sz) ∧ w'.cell? ⟨w1.heap.size, 8, none⟩ = some (.int .u8 h.sm) ∧ w'.cell? ⟨w1.heap.size, 9, none⟩ = some (.int .u16 h.wh)) (go_keep) (first
   | (refine app_step rfl (.tmp 26) (.tmp 27) rfl _ A c l rfl rfl ?_ ?_ HL.out h0l ?_; (next => (unfold RowL; simp only [List.map_nil]; (repeat (with_reducible refine ap ?_)); first | with_reducible exact aC _ _ | (with_reducible refine ah ?_ _; with_reducible exact aC _ _) | exact blk_two _ _ _)); (next => (repeat (first | exact HRW.out | (with_reducible refine Kd.C_alloc ?_ _) | (with_reducible refine Kd.C_drew ?_)))); intro gi ci w9 hgi hhd hci hup; have bh : w9.heap[w1.heap.size]? = some (.cells #[.string h.t, .int .u8 h.kd, .int .i64 h.mp, .bool h.rm, .bool h.bt, .bool h.ck, .int .i64 h.bk, .int .i64 h.sz, .int .u8 h.sm, .int .u16 h.wh] 30 (0, 0)) := hup.blk (by (repeat (first | exact B4.out | (with_reducible refine ah ?_ _) | (with_reducible refine ap ?_)))) (by intro q; have q2 : w1.heap.size = _ := q; first | omega | (simp at q2; omega)); have HGI := ab.mk hgi; have HHD := ab.mk hhd; have HCI := ab.mk hci; have HUP := ab.mk hup; clear hgi hhd hci hup; have k0 : w9.cell? ⟨w1.heap.size, 0, none⟩ = some (.string h.t) := (aa bh 0).trans rfl; have k1 : w9.cell? ⟨w1.heap.size, 1, none⟩ = some (.int .u8 h.kd) := (aa bh 1).trans rfl; have k2 : w9.cell? ⟨w1.heap.size, 2, none⟩ = some (.int .i64 h.mp) := (aa bh 2).trans rfl; have k3 : w9.cell? ⟨w1.heap.size, 3, none⟩ = some (.bool h.rm) := (aa bh 3).trans rfl; have k4 : w9.cell? ⟨w1.heap.size, 4, none⟩ = some (.bool h.bt) := (aa bh 4).trans rfl; have k5 : w9.cell? ⟨w1.heap.size, 5, none⟩ = some (.bool h.ck) := (aa bh 5).trans rfl; have k6 : w9.cell? ⟨w1.heap.size, 6, none⟩ = some (.int .i64 h.bk) := (aa bh 6).trans rfl; have k7 : w9.cell? ⟨w1.heap.size, 7, none⟩ = some (.int .i64 h.sz) := (aa bh 7).trans rfl; have k8 : w9.cell? ⟨w1.heap.size, 8, none⟩ = some (.int .u8 h.sm) := (aa bh 8).trans rfl; have k9 : w9.cell? ⟨w1.heap.size, 9, none⟩ = some (.int .u16 h.wh) := (aa bh 9).trans rfl; clear bh))
  all_goals have hlti := HHD.out.lt
  all_goals have hgi := HGI.out
  all_goals have hszw := HUP.out.size
  all_goals simp at hgi hszw
  ·go_wp2_with fail
   go_meet
   case rel =>
    refine ⟨⟨w9.heap.size + 1, gi, ci, w9.heap.size⟩, rfl, ⟨⟨?_, (HHD.out.alloc _).alloc _, ?_, by dsimp only; omega, by dsimp only; omega, by dsimp only; omega⟩⟩, ⟨by dsimp only; omega, by dsimp only; omega, by dsimp only; omega, HCI.out⟩, ⟨?_⟩⟩
    ·rw [new0_cells]; exact blk_two _ _ _
    ·exact row_zero (ah (aC _ _) _)
    ·exact ac (ac (HUP.out.below (aj (ac (Below.refl _ _) _)) (by simp <;> omega) (by intro k q; have q2 : k = _ := q; omega)) _) _
  ·go_wp2_with fail
   go_meet
   case rel =>
    refine ⟨⟨w9.heap.size, gi, ci, W3.heap.size + 1⟩, rfl, ⟨⟨?_, HHD.out.alloc _, ?_, by dsimp only; omega, by dsimp only; omega, by dsimp only; omega⟩⟩, ⟨by dsimp only; omega, by dsimp only; omega, by dsimp only; omega, HCI.out⟩, ⟨?_⟩⟩
    ·rw [new0_cells]; exact aC _ _
    ·exact row_zero (ah (HUP.out.blk (ap (blk_two _ _ _)) (by intro q; have q2 : W3.heap.size + 1 = _ := q; omega)) _)
    ·exact ac (HUP.out.below (aj (ac (ac (Below.refl _ _) _) _)) (by simp <;> omega) (by intro k q; have q2 : k = _ := q; omega)) _
  ·go_wp2_with fail
   go_meet
   case rel =>
    refine ⟨⟨w9.heap.size, gi, ci, W3.heap.size⟩, rfl, ⟨⟨?_, HHD.out.alloc _, ?_, by dsimp only; omega, by dsimp only; omega, by dsimp only; omega⟩⟩, ⟨by dsimp only; omega, by dsimp only; omega, by dsimp only; omega, HCI.out⟩, ⟨?_⟩⟩
    ·rw [new0_cells]; exact aC _ _
    ·exact row_zero (ah (HUP.out.blk (ap (ah (aC _ _) _)) (by intro q; have q2 : W3.heap.size = _ := q; omega)) _)
    ·exact ac (HUP.out.below (aj (ac (ac (Below.refl _ _) _) _)) (by simp <;> omega) (by intro k q; have q2 : k = _ := q; omega)) _
 case rest =>
  obtain ⟨a, rfl, H0, n4, n5⟩ := hcut
  have h0 := H0.out
  have b6 := af B6.out n5.out
  have hlt2 := aZ B6.out
  have hne : ¬ w2.heap.size = a.b := by have := n4.out; omega
  have hne2 : ¬ a.b = w2.heap.size := by have := n4.out; omega
  clear hlt2 hlt
  have m0 : wc.cell? ⟨w2.heap.size, 0, none⟩ = some (.int .i64 h.mp) := (aa b6 0).trans rfl
  have m1 : wc.cell? ⟨w2.heap.size, 1, none⟩ = some (.bool false) := (aa b6 1).trans rfl
  have m2 : wc.cell? ⟨w2.heap.size, 2, none⟩ = some (.int .u8 0) := (aa b6 2).trans rfl
  have m3 : wc.cell? ⟨w2.heap.size, 3, none⟩ = some (.int .u8 0) := (aa b6 3).trans rfl
  have m4 : wc.cell? ⟨w2.heap.size, 4, none⟩ = some (.int .u8 0) := (aa b6 4).trans rfl
  have m5 : wc.cell? ⟨w2.heap.size, 5, none⟩ = some (.bool false) := (aa b6 5).trans rfl
  have hone : (#[.int .i64 h.mp, .bool false, .int .u8 0, .int .u8 0, .int .u8 0, .bool false, .int .u8 0, .int .u8 0, .int .u8 0, .int .u16 0, .bool false, .bool false, .int .u8 0, .int .u8 0, .int .u8 0, .int .u16 0, .bool false, .bool false, .int .u8 255] : Array Value).all (·.oneCell') = true := by simp [Value.oneCell']
  have hth : wc.there a.b 0 19 := fun j hj => ⟨by rw [aa h0.box (0 + j)]; simp [Ct.cells]; omega, h0.frozen _⟩
  clear b6 h0 c0 c1 c2 c3 c4 c5 c6 c7 c8 c9 hmk
  go_wp2_with (refine wpList_store_mid rfl 62 (.tmp 38) (.tmp 36) rfl a.b 0 #[.int .i64 h.mp, .bool false, .int .u8 0, .int .u8 0, .int .u8 0, .bool false, .int .u8 0, .int .u8 0, .int .u8 0, .int .u16 0, .bool false, .bool false, .int .u8 0, .int .u8 0, .int .u8 0, .int .u16 0, .bool false, .bool false, .int .u8 255] rfl rfl hth (by kernel_rfl) hone ?_)
  go_returns
  obtain ⟨q1, q2⟩ := H0.out.stored (s' := Ct.new h l) (W := wc.setCells a.b 0 [.int .i64 h.mp, .bool false, .int .u8 0, .int .u8 0, .int .u8 0, .bool false, .int .u8 0, .int .u8 0, .int .u8 0, .int .u16 0, .bool false, .bool false, .int .u8 0, .int .u8 0, .int .u8 0, .int .u16 0, .bool false, .bool false, .int .u8 255]) (by
   have p := blk_setCells H0.out.box 0 [.int .i64 h.mp, .bool false, .int .u8 0, .int .u8 0, .int .u8 0, .bool false, .int .u8 0, .int .u8 0, .int .u8 0, .int .u16 0, .bool false, .bool false, .int .u8 0, .int .u8 0, .int .u8 0, .int .u16 0, .bool false, .bool false, .int .u8 255] (by simp [Ct.cells])
   rw [cells_new] at p
   exact p) (cB _ _ _ _) rfl rfl
  have hn4 := n4.out
  have hsz := HB.out.size
  refine ⟨a, rfl, q1, by omega, by omega, by omega, ?_⟩
  exact q2.below (ak HB.out n5.out) (Nat.le_trans hsz n5.out.size) (by intro k q; rcases q with q | q <;> omega)
end Go.Proofs.Ytmjjojbedllmgaa.Hand
namespace Go.Proofs.Ytmjjojbedllmgaa.Pure
theorem byte_fin {x : Int} (h : 0 ≤ x ∧ x ≤ 255) : ∃ v : Fin 256, x = (v.val : Int) := ⟨⟨x.toNat, by omega⟩, by show x = (x.toNat : Int); omega⟩
theorem wrap64_in {x : Int} (h : -9223372036854775808 ≤ x ∧ x ≤ 9223372036854775807) : wrap64 x = x := by unfold wrap64; omega
theorem nat_or_join (a d i : Nat) (h : d < 2 ^ i) : (a * 2 ^ i) ||| d = a * 2 ^ i + d := by
 rw [Nat.mul_comm, Nat.two_pow_add_eq_or_of_lt h]
theorem u16_or_join (a d : Int) (i : Nat) (hi : i ≤ 15) (ha : 0 ≤ a) (hd : 0 ≤ d) (hdi : d < ((2 ^ i : Nat) : Int)) (h : a * ((2 ^ i : Nat) : Int) + d < 65536) :
  bits .or .u16 (a * ((2 ^ i : Nat) : Int)) d = a * ((2 ^ i : Nat) : Int) + d := by
 obtain ⟨A, rfl⟩ := Int.eq_ofNat_of_zero_le ha
 obtain ⟨D, rfl⟩ := Int.eq_ofNat_of_zero_le hd
 have hA : A * 2 ^ i + D < 65536 := by
  have h3 : ((A * 2 ^ i + D : Nat) : Int) < ((65536 : Nat) : Int) := by rw [Int.natCast_add, Int.natCast_mul]; exact h
  exact Int.ofNat_lt.mp h3
 have hD : D < 2 ^ i := Int.ofNat_lt.mp hdi
 have e : ((A : Int) * ((2 ^ i : Nat) : Int)) = ((A * 2 ^ i : Nat) : Int) := (Int.natCast_mul _ _).symm
 have h1 : (BitVec.ofInt 16 ((A * 2 ^ i : Nat) : Int)).toNat = A * 2 ^ i := by
  rw [BitVec.ofInt_natCast, BitVec.toNat_ofNat]; exact Nat.mod_eq_of_lt (by omega)
 have h2 : (BitVec.ofInt 16 (D : Int)).toNat = D := by
  rw [BitVec.ofInt_natCast, BitVec.toNat_ofNat]; exact Nat.mod_eq_of_lt (by omega)
 rw [e]
 show IntKind.u16.wrap ((BitVec.ofInt 16 ((A * 2 ^ i : Nat) : Int) ||| BitVec.ofInt 16 (D : Int)).toNat : Int) = _
 rw [BitVec.toNat_or, h1, h2, nat_or_join A D i hD, IntKind.wrap_u16]
 omega
theorem u16_or256 (a d : Int) (ha : 0 ≤ a) (hd : 0 ≤ d) (hd' : d < 256) (h : a * 256 + d < 65536) : bits .or .u16 (a * 256) d = a * 256 + d := u16_or_join a d 8 (by omega) ha hd hd' h
end Go.Proofs.Ytmjjojbedllmgaa.Pure
namespace Go.Proofs.Ytmjjojbedllmgaa.Hand
theorem of1   (w : World) :
  Calls Try.prog 68 #[.int .i64 1] w fun e' w' => e' = .returned (.iface 128 (.agg #[])) ∧ w' = w := by
 go_enter Try.func68, Try.ntmps68
 go_wp2
 go_returns
 exact ⟨rfl, rfl⟩
theorem of3   (w : World) :
  Calls Try.prog 68 #[.int .i64 3] w fun e' w' => e' = .returned (.iface 129 (.agg #[])) ∧ w' = w := by
 go_enter Try.func68, Try.ntmps68
 go_wp2
 go_returns
 exact ⟨rfl, rfl⟩
theorem of5   (w : World) :
  Calls Try.prog 68 #[.int .i64 5] w fun e' w' => e' = .returned (.iface 130 (.agg #[])) ∧ w' = w := by
 go_enter Try.func68, Try.ntmps68
 go_wp2
 go_returns
 exact ⟨rfl, rfl⟩
theorem of0 (k : Int) (h1 : ¬ k = 1) (h3 : ¬ k = 3) (h5 : ¬ k = 5) (w : World) :
  Calls Try.prog 68 #[.int .i64 k] w fun e' w' => e' = .returned (.iface 131 (.agg #[])) ∧ w' = w := by
 go_enter Try.func68, Try.ntmps68
 go_wp2
 go_returns
 exact ⟨rfl, rfl⟩
def leastF (l : Int) : Int := if wrap64 l < 1 then 1 else wrap64 l
theorem least_lo (l : Int) (hl : wrap64 l < 1) (w : World) :
  Calls Try.prog 99 #[.int .u8 l] w fun e' w' => e' = .returned (.int .i64 1) ∧ w' = w := by
 go_enter Try.func99, Try.ntmps99
 go_wp2
 go_returns
 exact ⟨rfl, rfl⟩
theorem least_hi (l : Int) (hl : ¬ wrap64 l < 1) (w : World) :
  Calls Try.prog 99 #[.int .u8 l] w fun e' w' => e' = .returned (.int .i64 (wrap64 l)) ∧ w' = w := by
 go_enter Try.func99, Try.ntmps99
 go_wp2
 go_returns
 exact ⟨rfl, rfl⟩
theorem least_all (l : Int) (w : World) : Calls Try.prog 99 #[.int .u8 l] w fun e' w' => e' = .returned (.int .i64 (leastF l)) ∧ w' = w := by
 unfold leastF
 by_cases hl : wrap64 l < 1
 ·rw [if_pos hl]; exact least_lo l hl w
 ·rw [if_neg hl]; exact least_hi l hl w
theorem low_first1 (k : Int) (o : Bool) (l h r : Int)  (w : World) :
  Calls Try.prog 96 #[.agg #[], .agg #[.int .i64 k, .bool o, .int .u8 l, .int .u8 h, .int .u8 r, .bool true]] w fun e' w' => e' = .returned (.int .i64 (wrap64 (32 * wrap64 h))) ∧ Below w.heap.size w w' := by
 go_enter Try.func96, Try.ntmps96
 go_wp2
 go_returns
 exact ⟨rfl, by go_grown⟩
theorem low_first0 (k : Int) (o : Bool) (l h r : Int)  (w : World) :
  Calls Try.prog 96 #[.agg #[], .agg #[.int .i64 k, .bool o, .int .u8 l, .int .u8 h, .int .u8 r, .bool false]] w fun e' w' => e' = .returned (.int .i64 0) ∧ Below w.heap.size w w' := by
 go_enter Try.func96, Try.ntmps96
 go_wp2
 go_returns
 exact ⟨rfl, by go_grown⟩
theorem low_third (k : Int) (o : Bool) (l h r : Int) (md : Bool)  (w : World) :
  Calls Try.prog 102 #[.agg #[], .agg #[.int .i64 k, .bool o, .int .u8 l, .int .u8 h, .int .u8 r, .bool md]] w fun e' w' => e' = .returned (.int .i64 0) ∧ Below w.heap.size w w' := by
 go_enter Try.func102, Try.ntmps102
 go_wp2
 go_returns
 exact ⟨rfl, by go_grown⟩
theorem low_fifth (k : Int) (o : Bool) (l h r : Int) (md : Bool)  (w : World) :
  Calls Try.prog 106 #[.agg #[], .agg #[.int .i64 k, .bool o, .int .u8 l, .int .u8 h, .int .u8 r, .bool md]] w fun e' w' => e' = .returned (.int .i64 0) ∧ Below w.heap.size w w' := by
 go_enter Try.func106, Try.ntmps106
 go_wp2
 go_returns
 exact ⟨rfl, by go_grown⟩
theorem low_plain (k : Int) (o : Bool) (l h r : Int) (md : Bool)  (w : World) :
  Calls Try.prog 110 #[.agg #[], .agg #[.int .i64 k, .bool o, .int .u8 l, .int .u8 h, .int .u8 r, .bool md]] w fun e' w' => e' = .returned (.int .i64 0) ∧ Below w.heap.size w w' := by
 go_enter Try.func110, Try.ntmps110
 go_wp2
 go_returns
 exact ⟨rfl, by go_grown⟩
theorem high_plain (k : Int) (o : Bool) (l h r : Int) (md : Bool)  (w : World) :
  Calls Try.prog 109 #[.agg #[], .agg #[.int .i64 k, .bool o, .int .u8 l, .int .u8 h, .int .u8 r, .bool md]] w fun e' w' => e' = .returned (.int .i64 1) ∧ Below w.heap.size w w' := by
 go_enter Try.func109, Try.ntmps109
 go_wp2
 go_returns
 exact ⟨rfl, by go_grown⟩
theorem high_fifth (k : Int) (o : Bool) (l h r : Int) (md : Bool)  (w : World) :
  Calls Try.prog 105 #[.agg #[], .agg #[.int .i64 k, .bool o, .int .u8 l, .int .u8 h, .int .u8 r, .bool md]] w fun e' w' => e' = .returned (.int .i64 (wrap64 (wrap64 (256 * wrap64 h) + wrap64 l))) ∧ Below w.heap.size w w' := by
 go_enter Try.func105, Try.ntmps105
 go_wp2
 go_returns
 exact ⟨rfl, by go_grown⟩
theorem high_third1 (k : Int) (o : Bool) (l h r : Int) (md : Bool) (hl : wrap64 l < 1) (w : World) :
  Calls Try.prog 101 #[.agg #[], .agg #[.int .i64 k, .bool o, .int .u8 l, .int .u8 h, .int .u8 r, .bool md]] w fun e' w' => e' = .returned (.int .i64 1) ∧ Below w.heap.size w w' := by
 go_enter Try.func101, Try.ntmps101
 go_wp2
 go_returns
 exact ⟨rfl, by go_grown⟩
theorem high_third2 (k : Int) (o : Bool) (l h r : Int) (md : Bool) (hl : ¬ wrap64 l < 1) (w : World) :
  Calls Try.prog 101 #[.agg #[], .agg #[.int .i64 k, .bool o, .int .u8 l, .int .u8 h, .int .u8 r, .bool md]] w fun e' w' => e' = .returned (.int .i64 (wrap64 l)) ∧ Below w.heap.size w w' := by
 go_enter Try.func101, Try.ntmps101
 go_wp2
 go_returns
 exact ⟨rfl, by go_grown⟩
theorem high_first (k : Int) (o : Bool) (l h r : Int) (md : Bool)  (w : World) :
  Calls Try.prog 95 #[.agg #[], .agg #[.int .i64 k, .bool o, .int .u8 l, .int .u8 h, .int .u8 r, .bool md]] w fun e' w' => e' = .returned (.int .i64 (wrap64 (wrap64 (32 * wrap64 h) + leastF l))) ∧ Below w.heap.size w w' := by
 go_enter Try.func95, Try.ntmps95
 go_wp2
 go_quiet ((go_at_call 99; exact Calls.quiet_of_same (least_all l _)))
 go_wp2
 go_returns
 exact ⟨rfl, by repeat (first | exact Below.refl _ _ | apply ac | apply ai | apply aj)⟩
theorem high_third (k : Int) (o : Bool) (l h r : Int) (md : Bool) (w : World) : Calls Try.prog 101 #[.agg #[], .agg #[.int .i64 k, .bool o, .int .u8 l, .int .u8 h, .int .u8 r, .bool md]] w fun e' w' => e' = .returned (.int .i64 (leastF l)) ∧ Below w.heap.size w w' := by
 unfold leastF
 by_cases hl : wrap64 l < 1
 ·rw [if_pos hl]; exact high_third1 k o l h r md hl w
 ·rw [if_neg hl]; exact high_third2 k o l h r md hl w
theorem ram_plain (k : Int) (o : Bool) (l h r : Int) (md : Bool)  (w : World) :
  Calls Try.prog 111 #[.agg #[], .agg #[.int .i64 k, .bool o, .int .u8 l, .int .u8 h, .int .u8 r, .bool md]] w fun e' w' => e' = .returned (.tuple #[.int .i64 0, .bool true]) ∧ Below w.heap.size w w' := by
 go_enter Try.func111, Try.ntmps111
 go_wp2
 go_returns
 exact ⟨rfl, by go_grown⟩
theorem ram_fifth (k : Int) (o : Bool) (l h r : Int) (md : Bool)  (w : World) :
  Calls Try.prog 107 #[.agg #[], .agg #[.int .i64 k, .bool o, .int .u8 l, .int .u8 h, .int .u8 r, .bool md]] w fun e' w' => e' = .returned (.tuple #[.int .i64 (wrap64 r), .bool o]) ∧ Below w.heap.size w w' := by
 go_enter Try.func107, Try.ntmps107
 go_wp2
 go_quiet (fail)
 go_wp2
 go_returns
 exact ⟨rfl, by repeat (first | exact Below.refl _ _ | apply ac | apply ai | apply aj)⟩
theorem ram_first1 (k : Int) (o : Bool) (l h r : Int)  (w : World) :
  Calls Try.prog 97 #[.agg #[], .agg #[.int .i64 k, .bool o, .int .u8 l, .int .u8 h, .int .u8 r, .bool true]] w fun e' w' => e' = .returned (.tuple #[.int .i64 (wrap64 h), .bool o]) ∧ Below w.heap.size w w' := by
 go_enter Try.func97, Try.ntmps97
 go_wp2
 go_quiet (fail)
 go_wp2
 go_returns
 exact ⟨rfl, by repeat (first | exact Below.refl _ _ | apply ac | apply ai | apply aj)⟩
theorem ram_first0 (k : Int) (o : Bool) (l h r : Int)  (w : World) :
  Calls Try.prog 97 #[.agg #[], .agg #[.int .i64 k, .bool o, .int .u8 l, .int .u8 h, .int .u8 r, .bool false]] w fun e' w' => e' = .returned (.tuple #[.int .i64 0, .bool o]) ∧ Below w.heap.size w w' := by
 go_enter Try.func97, Try.ntmps97
 go_wp2
 go_quiet (fail)
 go_wp2
 go_returns
 exact ⟨rfl, by repeat (first | exact Below.refl _ _ | apply ac | apply ai | apply aj)⟩
theorem ram_third0 (k : Int) (l h r : Int) (md : Bool)  (w : World) :
  Calls Try.prog 103 #[.agg #[], .agg #[.int .i64 k, .bool false, .int .u8 l, .int .u8 h, .int .u8 r, .bool md]] w fun e' w' => e' = .returned (.tuple #[.int .i64 (wrap64 r), .bool false]) ∧ Below w.heap.size w w' := by
 go_enter Try.func103, Try.ntmps103
 go_wp2
 go_quiet (fail)
 go_wp2
 go_returns
 exact ⟨rfl, by repeat (first | exact Below.refl _ _ | apply ac | apply ai | apply aj)⟩
theorem ram_third1 (k : Int) (l h r : Int) (md : Bool)  (w : World) :
  Calls Try.prog 103 #[.agg #[], .agg #[.int .i64 k, .bool true, .int .u8 l, .int .u8 h, .int .u8 r, .bool md]] w fun e' w' => e' = .returned (.tuple #[.int .i64 (wrap64 r), .bool (decide (r < 8))]) ∧ Below w.heap.size w w' := by
 go_enter Try.func103, Try.ntmps103
 go_wp2
 go_quiet (fail)
 go_wp2
 go_returns
 exact ⟨rfl, by repeat (first | exact Below.refl _ _ | apply ac | apply ai | apply aj)⟩
theorem write_first0 (k p v : Int) (o : Bool) (l h r : Int) (md : Bool) (hp : wrap64 (Int.tdiv p 2) = 0) (w : World) :
  Calls Try.prog 98 #[.agg #[], .agg #[.int .i64 k, .bool o, .int .u8 l, .int .u8 h, .int .u8 r, .bool md], .int .i64 p, .int .u8 v] w fun e' w' => e' = .returned (.agg #[.int .i64 k, .bool ((Go.bits .and .u8 v 15) == 10), .int .u8 l, .int .u8 h, .int .u8 r, .bool md]) ∧ Below w.heap.size w w' := by
 go_enter Try.func98, Try.ntmps98
 go_wp2
 go_returns
 exact ⟨rfl, by go_grown⟩
theorem write_first1 (k p v : Int) (o : Bool) (l h r : Int) (md : Bool) (hp : wrap64 (Int.tdiv p 2) = 1) (w : World) :
  Calls Try.prog 98 #[.agg #[], .agg #[.int .i64 k, .bool o, .int .u8 l, .int .u8 h, .int .u8 r, .bool md], .int .i64 p, .int .u8 v] w fun e' w' => e' = .returned (.agg #[.int .i64 k, .bool o, .int .u8 (Go.bits .and .u8 v 31), .int .u8 h, .int .u8 r, .bool md]) ∧ Below w.heap.size w w' := by
 go_enter Try.func98, Try.ntmps98
 go_wp2
 go_returns
 exact ⟨rfl, by go_grown⟩
theorem write_first2 (k p v : Int) (o : Bool) (l h r : Int) (md : Bool) (hp : wrap64 (Int.tdiv p 2) = 2) (w : World) :
  Calls Try.prog 98 #[.agg #[], .agg #[.int .i64 k, .bool o, .int .u8 l, .int .u8 h, .int .u8 r, .bool md], .int .i64 p, .int .u8 v] w fun e' w' => e' = .returned (.agg #[.int .i64 k, .bool o, .int .u8 l, .int .u8 (Go.bits .and .u8 v 3), .int .u8 r, .bool md]) ∧ Below w.heap.size w w' := by
 go_enter Try.func98, Try.ntmps98
 go_wp2
 go_returns
 exact ⟨rfl, by go_grown⟩
theorem write_first3 (k p v : Int) (o : Bool) (l h r : Int) (md : Bool) (hp : wrap64 (Int.tdiv p 2) = 3) (w : World) :
  Calls Try.prog 98 #[.agg #[], .agg #[.int .i64 k, .bool o, .int .u8 l, .int .u8 h, .int .u8 r, .bool md], .int .i64 p, .int .u8 v] w fun e' w' => e' = .returned (.agg #[.int .i64 k, .bool o, .int .u8 l, .int .u8 h, .int .u8 r, .bool ((Go.bits .and .u8 v 1) == 1)]) ∧ Below w.heap.size w w' := by
 go_enter Try.func98, Try.ntmps98
 go_wp2
 go_returns
 exact ⟨rfl, by go_grown⟩
theorem write_first_no (k p v : Int) (o : Bool) (l h r : Int) (md : Bool) (h0 : ¬ wrap64 (Int.tdiv p 2) = 0) (h1 : ¬ wrap64 (Int.tdiv p 2) = 1) (h2 : ¬ wrap64 (Int.tdiv p 2) = 2) (h3 : ¬ wrap64 (Int.tdiv p 2) = 3) (w : World) :
  Calls Try.prog 98 #[.agg #[], .agg #[.int .i64 k, .bool o, .int .u8 l, .int .u8 h, .int .u8 r, .bool md], .int .i64 p, .int .u8 v] w fun e' w' => e' = .returned (.agg #[.int .i64 k, .bool o, .int .u8 l, .int .u8 h, .int .u8 r, .bool md]) ∧ Below w.heap.size w w' := by
 go_enter Try.func98, Try.ntmps98
 have e0 : (wrap64 (Int.tdiv p 2) == 0) = false := by simpa using h0
 have e1 : (wrap64 (Int.tdiv p 2) == 1) = false := by simpa using h1
 have e2 : (wrap64 (Int.tdiv p 2) == 2) = false := by simpa using h2
 have e3 : (wrap64 (Int.tdiv p 2) == 3) = false := by simpa using h3
 go_wp2
 go_returns
 exact ⟨rfl, by go_grown⟩
theorem write_third0 (k p v : Int) (o : Bool) (l h r : Int) (md : Bool) (hp : wrap64 (Int.tdiv p 2) = 0) (w : World) :
  Calls Try.prog 104 #[.agg #[], .agg #[.int .i64 k, .bool o, .int .u8 l, .int .u8 h, .int .u8 r, .bool md], .int .i64 p, .int .u8 v] w fun e' w' => e' = .returned (.agg #[.int .i64 k, .bool ((Go.bits .and .u8 v 15) == 10), .int .u8 l, .int .u8 h, .int .u8 r, .bool md]) ∧ Below w.heap.size w w' := by
 go_enter Try.func104, Try.ntmps104
 go_wp2
 go_returns
 exact ⟨rfl, by go_grown⟩
theorem write_third1 (k p v : Int) (o : Bool) (l h r : Int) (md : Bool) (hp : wrap64 (Int.tdiv p 2) = 1) (w : World) :
  Calls Try.prog 104 #[.agg #[], .agg #[.int .i64 k, .bool o, .int .u8 l, .int .u8 h, .int .u8 r, .bool md], .int .i64 p, .int .u8 v] w fun e' w' => e' = .returned (.agg #[.int .i64 k, .bool o, .int .u8 (Go.bits .and .u8 v 127), .int .u8 h, .int .u8 r, .bool md]) ∧ Below w.heap.size w w' := by
 go_enter Try.func104, Try.ntmps104
 go_wp2
 go_returns
 exact ⟨rfl, by go_grown⟩
theorem write_third2 (k p v : Int) (o : Bool) (l h r : Int) (md : Bool) (hp : wrap64 (Int.tdiv p 2) = 2) (w : World) :
  Calls Try.prog 104 #[.agg #[], .agg #[.int .i64 k, .bool o, .int .u8 l, .int .u8 h, .int .u8 r, .bool md], .int .i64 p, .int .u8 v] w fun e' w' => e' = .returned (.agg #[.int .i64 k, .bool o, .int .u8 l, .int .u8 h, .int .u8 (Go.bits .and .u8 v 15), .bool md]) ∧ Below w.heap.size w w' := by
 go_enter Try.func104, Try.ntmps104
 go_wp2
 go_returns
 exact ⟨rfl, by go_grown⟩
theorem write_third_no (k p v : Int) (o : Bool) (l h r : Int) (md : Bool) (h0 : ¬ wrap64 (Int.tdiv p 2) = 0) (h1 : ¬ wrap64 (Int.tdiv p 2) = 1) (h2 : ¬ wrap64 (Int.tdiv p 2) = 2) (w : World) :
  Calls Try.prog 104 #[.agg #[], .agg #[.int .i64 k, .bool o, .int .u8 l, .int .u8 h, .int .u8 r, .bool md], .int .i64 p, .int .u8 v] w fun e' w' => e' = .returned (.agg #[.int .i64 k, .bool o, .int .u8 l, .int .u8 h, .int .u8 r, .bool md]) ∧ Below w.heap.size w w' := by
 go_enter Try.func104, Try.ntmps104
 have e0 : (wrap64 (Int.tdiv p 2) == 0) = false := by simpa using h0
 have e1 : (wrap64 (Int.tdiv p 2) == 1) = false := by simpa using h1
 have e2 : (wrap64 (Int.tdiv p 2) == 2) = false := by simpa using h2
 go_wp2
 go_returns
 exact ⟨rfl, by go_grown⟩
theorem write_fifth0 (k p v : Int) (o : Bool) (l h r : Int) (md : Bool) (hp : p = 0) (w : World) :
  Calls Try.prog 108 #[.agg #[], .agg #[.int .i64 k, .bool o, .int .u8 l, .int .u8 h, .int .u8 r, .bool md], .int .i64 p, .int .u8 v] w fun e' w' => e' = .returned (.agg #[.int .i64 k, .bool (v == 10), .int .u8 l, .int .u8 h, .int .u8 r, .bool md]) ∧ Below w.heap.size w w' := by
 go_enter Try.func108, Try.ntmps108
 go_wp2
 go_returns
 exact ⟨rfl, by go_grown⟩
theorem write_fifth1 (k p v : Int) (o : Bool) (l h r : Int) (md : Bool) (hp : p = 1) (w : World) :
  Calls Try.prog 108 #[.agg #[], .agg #[.int .i64 k, .bool o, .int .u8 l, .int .u8 h, .int .u8 r, .bool md], .int .i64 p, .int .u8 v] w fun e' w' => e' = .returned (.agg #[.int .i64 k, .bool (v == 10), .int .u8 l, .int .u8 h, .int .u8 r, .bool md]) ∧ Below w.heap.size w w' := by
 go_enter Try.func108, Try.ntmps108
 go_wp2
 go_returns
 exact ⟨rfl, by go_grown⟩
theorem write_fifth2 (k p v : Int) (o : Bool) (l h r : Int) (md : Bool) (hp : p = 2) (w : World) :
  Calls Try.prog 108 #[.agg #[], .agg #[.int .i64 k, .bool o, .int .u8 l, .int .u8 h, .int .u8 r, .bool md], .int .i64 p, .int .u8 v] w fun e' w' => e' = .returned (.agg #[.int .i64 k, .bool o, .int .u8 v, .int .u8 h, .int .u8 r, .bool md]) ∧ Below w.heap.size w w' := by
 go_enter Try.func108, Try.ntmps108
 go_wp2
 go_returns
 exact ⟨rfl, by go_grown⟩
theorem write_fifth3 (k p v : Int) (o : Bool) (l h r : Int) (md : Bool) (hp : p = 3) (w : World) :
  Calls Try.prog 108 #[.agg #[], .agg #[.int .i64 k, .bool o, .int .u8 l, .int .u8 h, .int .u8 r, .bool md], .int .i64 p, .int .u8 v] w fun e' w' => e' = .returned (.agg #[.int .i64 k, .bool o, .int .u8 l, .int .u8 (Go.bits .and .u8 v 1), .int .u8 r, .bool md]) ∧ Below w.heap.size w w' := by
 go_enter Try.func108, Try.ntmps108
 go_wp2
 go_returns
 exact ⟨rfl, by go_grown⟩
theorem write_fifth4 (k p v : Int) (o : Bool) (l h r : Int) (md : Bool) (hp : p = 4) (w : World) :
  Calls Try.prog 108 #[.agg #[], .agg #[.int .i64 k, .bool o, .int .u8 l, .int .u8 h, .int .u8 r, .bool md], .int .i64 p, .int .u8 v] w fun e' w' => e' = .returned (.agg #[.int .i64 k, .bool o, .int .u8 l, .int .u8 h, .int .u8 (Go.bits .and .u8 v 15), .bool md]) ∧ Below w.heap.size w w' := by
 go_enter Try.func108, Try.ntmps108
 go_wp2
 go_returns
 exact ⟨rfl, by go_grown⟩
theorem write_fifth5 (k p v : Int) (o : Bool) (l h r : Int) (md : Bool) (hp : p = 5) (w : World) :
  Calls Try.prog 108 #[.agg #[], .agg #[.int .i64 k, .bool o, .int .u8 l, .int .u8 h, .int .u8 r, .bool md], .int .i64 p, .int .u8 v] w fun e' w' => e' = .returned (.agg #[.int .i64 k, .bool o, .int .u8 l, .int .u8 h, .int .u8 (Go.bits .and .u8 v 15), .bool md]) ∧ Below w.heap.size w w' := by
 go_enter Try.func108, Try.ntmps108
 go_wp2
 go_returns
 exact ⟨rfl, by go_grown⟩
theorem write_fifth_no (k p v : Int) (o : Bool) (l h r : Int) (md : Bool) (h0 : ¬ p = 0) (h1 : ¬ p = 1) (h2 : ¬ p = 2) (h3 : ¬ p = 3) (h4 : ¬ p = 4) (h5 : ¬ p = 5) (w : World) :
  Calls Try.prog 108 #[.agg #[], .agg #[.int .i64 k, .bool o, .int .u8 l, .int .u8 h, .int .u8 r, .bool md], .int .i64 p, .int .u8 v] w fun e' w' => e' = .returned (.agg #[.int .i64 k, .bool o, .int .u8 l, .int .u8 h, .int .u8 r, .bool md]) ∧ Below w.heap.size w w' := by
 go_enter Try.func108, Try.ntmps108
 have e0 : (p == 0) = false := by simpa using h0
 have e1 : (p == 1) = false := by simpa using h1
 have e2 : (p == 2) = false := by simpa using h2
 have e3 : (p == 3) = false := by simpa using h3
 have e4 : (p == 4) = false := by simpa using h4
 have e5 : (p == 5) = false := by simpa using h5
 go_wp2
 go_returns
 exact ⟨rfl, by go_grown⟩
theorem write_plain (k p v : Int) (o : Bool) (l h r : Int) (md : Bool)  (w : World) :
  Calls Try.prog 112 #[.agg #[], .agg #[.int .i64 k, .bool o, .int .u8 l, .int .u8 h, .int .u8 r, .bool md], .int .i64 p, .int .u8 v] w fun e' w' => e' = .returned (.agg #[.int .i64 k, .bool o, .int .u8 l, .int .u8 h, .int .u8 r, .bool md]) ∧ Below w.heap.size w w' := by
 go_enter Try.func112, Try.ntmps112
 go_wp2
 go_returns
 exact ⟨rfl, by go_grown⟩
end Go.Proofs.Ytmjjojbedllmgaa.Hand
namespace Go.Proofs.Ytmjjojbedllmgaa.G
def bK.f (a0 : Int) : Option (Bool) := some ((a0 / 8192) == 5)
theorem bK.calls (a0 : Int) (r : Bool) (w : World) (h : bK.f a0 = some r) :
  Calls Try.prog 69 #[.int .u16 a0] w fun e w' => e = .returned (.bool r) ∧ aM w w' := by
 have H : (some ((a0 / 8192) == 5)) = some r := h
 clear h
 obtain rfl := Option.some.inj H
 go_enter Try.func69, Try.ntmps69
 go_wp2
 go_ret
 exact ⟨by first | rfl | (simp; done) | (simp [*]; done), by repeat (first | exact aM.refl _ | apply aM.step)⟩
end Go.Proofs.Ytmjjojbedllmgaa.G
namespace Go.Proofs.Ytmjjojbedllmgaa.Hand
theorem bank_low1 (k : Int) (o : Bool) (l h r : Int) (md : Bool) (a : Int)  (hp : a / 16384 = 0) (w : World) :
    Calls Try.prog 64 #[.agg #[.int .i64 1, .bool o, .int .u8 l, .int .u8 h, .int .u8 r, .bool true], .int .u16 a] w fun e' w' => e' = .returned (.int .i64 (wrap64 (32 * wrap64 h))) ∧ Below w.heap.size w w' := by
  go_enter Try.func64, Try.ntmps64
  go_wp2
  have bk := aC w (.cells #[.int .i64 1, .bool o, .int .u8 l, .int .u8 h, .int .u8 r, .bool true] 32)
  have hB := ac (Below.refl w.heap.size w) (.cells #[.int .i64 1, .bool o, .int .u8 l, .int .u8 h, .int .u8 r, .bool true] 32)
  generalize w.alloc (.cells #[.int .i64 1, .bool o, .int .u8 l, .int .u8 h, .int .u8 r, .bool true] 32) = W at bk hB ⊢
  have BK := ab.mk bk
  have HB := ab.mk hB
  clear bk hB
  have c0 : W.cell? ⟨w.heap.size, 0, none⟩ = some (.int .i64 1) := (aa BK.out 0).trans rfl
  have c1 : W.cell? ⟨w.heap.size, 1, none⟩ = some (.bool o) := (aa BK.out 1).trans rfl
  have c2 : W.cell? ⟨w.heap.size, 2, none⟩ = some (.int .u8 l) := (aa BK.out 2).trans rfl
  have c3 : W.cell? ⟨w.heap.size, 3, none⟩ = some (.int .u8 h) := (aa BK.out 3).trans rfl
  have c4 : W.cell? ⟨w.heap.size, 4, none⟩ = some (.int .u8 r) := (aa BK.out 4).trans rfl
  have c5 : W.cell? ⟨w.heap.size, 5, none⟩ = some (.bool true) := (aa BK.out 5).trans rfl
  go_region_held3 (fun w' => w'.cell? ⟨w.heap.size, 0, none⟩ = some (.int .i64 1) ∧ w'.cell? ⟨w.heap.size, 1, none⟩ = some (.bool o) ∧ w'.cell? ⟨w.heap.size, 2, none⟩ = some (.int .u8 l) ∧ w'.cell? ⟨w.heap.size, 3, none⟩ = some (.int .u8 h) ∧ w'.cell? ⟨w.heap.size, 4, none⟩ = some (.int .u8 r) ∧ w'.cell? ⟨w.heap.size, 5, none⟩ = some (.bool true)) (go_keep)
    (first | (go_at_call 68; ((with_reducible refine (of1 _).mono ?_)); rintro e' w2 ⟨rfl, rfl⟩)
           | (go_at_call 96; ((with_reducible refine (low_first1 1 o l h r _).mono ?_)); rintro e' w2 ⟨rfl, hb⟩; have n0 := ab.mk (af (ap BK.out) hb); have n1 := ab.mk (ak (aj HB.out) hb); clear hb; have d0 : w2.cell? ⟨w.heap.size, 0, none⟩ = some (.int .i64 1) := (aa n0.out 0).trans rfl; have d1 : w2.cell? ⟨w.heap.size, 1, none⟩ = some (.bool o) := (aa n0.out 1).trans rfl; have d2 : w2.cell? ⟨w.heap.size, 2, none⟩ = some (.int .u8 l) := (aa n0.out 2).trans rfl; have d3 : w2.cell? ⟨w.heap.size, 3, none⟩ = some (.int .u8 h) := (aa n0.out 3).trans rfl; have d4 : w2.cell? ⟨w.heap.size, 4, none⟩ = some (.int .u8 r) := (aa n0.out 4).trans rfl; have d5 : w2.cell? ⟨w.heap.size, 5, none⟩ = some (.bool true) := (aa n0.out 5).trans rfl))
  rename_i hHeld
  clear hHeld
  go_wp2
  go_returns
  exact ⟨rfl, n1.out⟩
theorem bank_low2 (k : Int) (o : Bool) (l h r : Int) (md : Bool) (a : Int)  (hp : a / 16384 = 0) (w : World) :
    Calls Try.prog 64 #[.agg #[.int .i64 1, .bool o, .int .u8 l, .int .u8 h, .int .u8 r, .bool false], .int .u16 a] w fun e' w' => e' = .returned (.int .i64 (0)) ∧ Below w.heap.size w w' := by
  go_enter Try.func64, Try.ntmps64
  go_wp2
  have bk := aC w (.cells #[.int .i64 1, .bool o, .int .u8 l, .int .u8 h, .int .u8 r, .bool false] 32)
  have hB := ac (Below.refl w.heap.size w) (.cells #[.int .i64 1, .bool o, .int .u8 l, .int .u8 h, .int .u8 r, .bool false] 32)
  generalize w.alloc (.cells #[.int .i64 1, .bool o, .int .u8 l, .int .u8 h, .int .u8 r, .bool false] 32) = W at bk hB ⊢
  have BK := ab.mk bk
  have HB := ab.mk hB
  clear bk hB
  have c0 : W.cell? ⟨w.heap.size, 0, none⟩ = some (.int .i64 1) := (aa BK.out 0).trans rfl
  have c1 : W.cell? ⟨w.heap.size, 1, none⟩ = some (.bool o) := (aa BK.out 1).trans rfl
  have c2 : W.cell? ⟨w.heap.size, 2, none⟩ = some (.int .u8 l) := (aa BK.out 2).trans rfl
  have c3 : W.cell? ⟨w.heap.size, 3, none⟩ = some (.int .u8 h) := (aa BK.out 3).trans rfl
  have c4 : W.cell? ⟨w.heap.size, 4, none⟩ = some (.int .u8 r) := (aa BK.out 4).trans rfl
  have c5 : W.cell? ⟨w.heap.size, 5, none⟩ = some (.bool false) := (aa BK.out 5).trans rfl
  go_region_held3 (fun w' => w'.cell? ⟨w.heap.size, 0, none⟩ = some (.int .i64 1) ∧ w'.cell? ⟨w.heap.size, 1, none⟩ = some (.bool o) ∧ w'.cell? ⟨w.heap.size, 2, none⟩ = some (.int .u8 l) ∧ w'.cell? ⟨w.heap.size, 3, none⟩ = some (.int .u8 h) ∧ w'.cell? ⟨w.heap.size, 4, none⟩ = some (.int .u8 r) ∧ w'.cell? ⟨w.heap.size, 5, none⟩ = some (.bool false)) (go_keep)
    (first | (go_at_call 68; ((with_reducible refine (of1 _).mono ?_)); rintro e' w2 ⟨rfl, rfl⟩)
           | (go_at_call 96; ((with_reducible refine (low_first0 1 o l h r _).mono ?_)); rintro e' w2 ⟨rfl, hb⟩; have n0 := ab.mk (af (ap BK.out) hb); have n1 := ab.mk (ak (aj HB.out) hb); clear hb; have d0 : w2.cell? ⟨w.heap.size, 0, none⟩ = some (.int .i64 1) := (aa n0.out 0).trans rfl; have d1 : w2.cell? ⟨w.heap.size, 1, none⟩ = some (.bool o) := (aa n0.out 1).trans rfl; have d2 : w2.cell? ⟨w.heap.size, 2, none⟩ = some (.int .u8 l) := (aa n0.out 2).trans rfl; have d3 : w2.cell? ⟨w.heap.size, 3, none⟩ = some (.int .u8 h) := (aa n0.out 3).trans rfl; have d4 : w2.cell? ⟨w.heap.size, 4, none⟩ = some (.int .u8 r) := (aa n0.out 4).trans rfl; have d5 : w2.cell? ⟨w.heap.size, 5, none⟩ = some (.bool false) := (aa n0.out 5).trans rfl))
  rename_i hHeld
  clear hHeld
  go_wp2
  go_returns
  exact ⟨rfl, n1.out⟩
theorem bank_low3 (k : Int) (o : Bool) (l h r : Int) (md : Bool) (a : Int)  (hp : a / 16384 = 0) (w : World) :
    Calls Try.prog 64 #[.agg #[.int .i64 3, .bool o, .int .u8 l, .int .u8 h, .int .u8 r, .bool md], .int .u16 a] w fun e' w' => e' = .returned (.int .i64 (0)) ∧ Below w.heap.size w w' := by
  go_enter Try.func64, Try.ntmps64
  go_wp2
  have bk := aC w (.cells #[.int .i64 3, .bool o, .int .u8 l, .int .u8 h, .int .u8 r, .bool md] 32)
  have hB := ac (Below.refl w.heap.size w) (.cells #[.int .i64 3, .bool o, .int .u8 l, .int .u8 h, .int .u8 r, .bool md] 32)
  generalize w.alloc (.cells #[.int .i64 3, .bool o, .int .u8 l, .int .u8 h, .int .u8 r, .bool md] 32) = W at bk hB ⊢
  have BK := ab.mk bk
  have HB := ab.mk hB
  clear bk hB
  have c0 : W.cell? ⟨w.heap.size, 0, none⟩ = some (.int .i64 3) := (aa BK.out 0).trans rfl
  have c1 : W.cell? ⟨w.heap.size, 1, none⟩ = some (.bool o) := (aa BK.out 1).trans rfl
  have c2 : W.cell? ⟨w.heap.size, 2, none⟩ = some (.int .u8 l) := (aa BK.out 2).trans rfl
  have c3 : W.cell? ⟨w.heap.size, 3, none⟩ = some (.int .u8 h) := (aa BK.out 3).trans rfl
  have c4 : W.cell? ⟨w.heap.size, 4, none⟩ = some (.int .u8 r) := (aa BK.out 4).trans rfl
  have c5 : W.cell? ⟨w.heap.size, 5, none⟩ = some (.bool md) := (aa BK.out 5).trans rfl
  go_region_held3 (fun w' => w'.cell? ⟨w.heap.size, 0, none⟩ = some (.int .i64 3) ∧ w'.cell? ⟨w.heap.size, 1, none⟩ = some (.bool o) ∧ w'.cell? ⟨w.heap.size, 2, none⟩ = some (.int .u8 l) ∧ w'.cell? ⟨w.heap.size, 3, none⟩ = some (.int .u8 h) ∧ w'.cell? ⟨w.heap.size, 4, none⟩ = some (.int .u8 r) ∧ w'.cell? ⟨w.heap.size, 5, none⟩ = some (.bool md)) (go_keep)
    (first | (go_at_call 68; ((with_reducible refine (of3 _).mono ?_)); rintro e' w2 ⟨rfl, rfl⟩)
           | (go_at_call 102; ((with_reducible refine (low_third 3 o l h r md _).mono ?_)); rintro e' w2 ⟨rfl, hb⟩; have n0 := ab.mk (af (ap BK.out) hb); have n1 := ab.mk (ak (aj HB.out) hb); clear hb; have d0 : w2.cell? ⟨w.heap.size, 0, none⟩ = some (.int .i64 3) := (aa n0.out 0).trans rfl; have d1 : w2.cell? ⟨w.heap.size, 1, none⟩ = some (.bool o) := (aa n0.out 1).trans rfl; have d2 : w2.cell? ⟨w.heap.size, 2, none⟩ = some (.int .u8 l) := (aa n0.out 2).trans rfl; have d3 : w2.cell? ⟨w.heap.size, 3, none⟩ = some (.int .u8 h) := (aa n0.out 3).trans rfl; have d4 : w2.cell? ⟨w.heap.size, 4, none⟩ = some (.int .u8 r) := (aa n0.out 4).trans rfl; have d5 : w2.cell? ⟨w.heap.size, 5, none⟩ = some (.bool md) := (aa n0.out 5).trans rfl))
  rename_i hHeld
  clear hHeld
  go_wp2
  go_returns
  exact ⟨rfl, n1.out⟩
theorem bank_low5 (k : Int) (o : Bool) (l h r : Int) (md : Bool) (a : Int)  (hp : a / 16384 = 0) (w : World) :
    Calls Try.prog 64 #[.agg #[.int .i64 5, .bool o, .int .u8 l, .int .u8 h, .int .u8 r, .bool md], .int .u16 a] w fun e' w' => e' = .returned (.int .i64 (0)) ∧ Below w.heap.size w w' := by
  go_enter Try.func64, Try.ntmps64
  go_wp2
  have bk := aC w (.cells #[.int .i64 5, .bool o, .int .u8 l, .int .u8 h, .int .u8 r, .bool md] 32)
  have hB := ac (Below.refl w.heap.size w) (.cells #[.int .i64 5, .bool o, .int .u8 l, .int .u8 h, .int .u8 r, .bool md] 32)
  generalize w.alloc (.cells #[.int .i64 5, .bool o, .int .u8 l, .int .u8 h, .int .u8 r, .bool md] 32) = W at bk hB ⊢
  have BK := ab.mk bk
  have HB := ab.mk hB
  clear bk hB
  have c0 : W.cell? ⟨w.heap.size, 0, none⟩ = some (.int .i64 5) := (aa BK.out 0).trans rfl
  have c1 : W.cell? ⟨w.heap.size, 1, none⟩ = some (.bool o) := (aa BK.out 1).trans rfl
  have c2 : W.cell? ⟨w.heap.size, 2, none⟩ = some (.int .u8 l) := (aa BK.out 2).trans rfl
  have c3 : W.cell? ⟨w.heap.size, 3, none⟩ = some (.int .u8 h) := (aa BK.out 3).trans rfl
  have c4 : W.cell? ⟨w.heap.size, 4, none⟩ = some (.int .u8 r) := (aa BK.out 4).trans rfl
  have c5 : W.cell? ⟨w.heap.size, 5, none⟩ = some (.bool md) := (aa BK.out 5).trans rfl
  go_region_held3 (fun w' => w'.cell? ⟨w.heap.size, 0, none⟩ = some (.int .i64 5) ∧ w'.cell? ⟨w.heap.size, 1, none⟩ = some (.bool o) ∧ w'.cell? ⟨w.heap.size, 2, none⟩ = some (.int .u8 l) ∧ w'.cell? ⟨w.heap.size, 3, none⟩ = some (.int .u8 h) ∧ w'.cell? ⟨w.heap.size, 4, none⟩ = some (.int .u8 r) ∧ w'.cell? ⟨w.heap.size, 5, none⟩ = some (.bool md)) (go_keep)
    (first | (go_at_call 68; ((with_reducible refine (of5 _).mono ?_)); rintro e' w2 ⟨rfl, rfl⟩)
           | (go_at_call 106; ((with_reducible refine (low_fifth 5 o l h r md _).mono ?_)); rintro e' w2 ⟨rfl, hb⟩; have n0 := ab.mk (af (ap BK.out) hb); have n1 := ab.mk (ak (aj HB.out) hb); clear hb; have d0 : w2.cell? ⟨w.heap.size, 0, none⟩ = some (.int .i64 5) := (aa n0.out 0).trans rfl; have d1 : w2.cell? ⟨w.heap.size, 1, none⟩ = some (.bool o) := (aa n0.out 1).trans rfl; have d2 : w2.cell? ⟨w.heap.size, 2, none⟩ = some (.int .u8 l) := (aa n0.out 2).trans rfl; have d3 : w2.cell? ⟨w.heap.size, 3, none⟩ = some (.int .u8 h) := (aa n0.out 3).trans rfl; have d4 : w2.cell? ⟨w.heap.size, 4, none⟩ = some (.int .u8 r) := (aa n0.out 4).trans rfl; have d5 : w2.cell? ⟨w.heap.size, 5, none⟩ = some (.bool md) := (aa n0.out 5).trans rfl))
  rename_i hHeld
  clear hHeld
  go_wp2
  go_returns
  exact ⟨rfl, n1.out⟩
theorem bank_low0 (k : Int) (o : Bool) (l h r : Int) (md : Bool) (a : Int) (h1 : ¬ k = 1) (h3 : ¬ k = 3) (h5 : ¬ k = 5) (hp : a / 16384 = 0) (w : World) :
    Calls Try.prog 64 #[.agg #[.int .i64 k, .bool o, .int .u8 l, .int .u8 h, .int .u8 r, .bool md], .int .u16 a] w fun e' w' => e' = .returned (.int .i64 (0)) ∧ Below w.heap.size w w' := by
  go_enter Try.func64, Try.ntmps64
  go_wp2
  have bk := aC w (.cells #[.int .i64 k, .bool o, .int .u8 l, .int .u8 h, .int .u8 r, .bool md] 32)
  have hB := ac (Below.refl w.heap.size w) (.cells #[.int .i64 k, .bool o, .int .u8 l, .int .u8 h, .int .u8 r, .bool md] 32)
  generalize w.alloc (.cells #[.int .i64 k, .bool o, .int .u8 l, .int .u8 h, .int .u8 r, .bool md] 32) = W at bk hB ⊢
  have BK := ab.mk bk
  have HB := ab.mk hB
  clear bk hB
  have c0 : W.cell? ⟨w.heap.size, 0, none⟩ = some (.int .i64 k) := (aa BK.out 0).trans rfl
  have c1 : W.cell? ⟨w.heap.size, 1, none⟩ = some (.bool o) := (aa BK.out 1).trans rfl
  have c2 : W.cell? ⟨w.heap.size, 2, none⟩ = some (.int .u8 l) := (aa BK.out 2).trans rfl
  have c3 : W.cell? ⟨w.heap.size, 3, none⟩ = some (.int .u8 h) := (aa BK.out 3).trans rfl
  have c4 : W.cell? ⟨w.heap.size, 4, none⟩ = some (.int .u8 r) := (aa BK.out 4).trans rfl
  have c5 : W.cell? ⟨w.heap.size, 5, none⟩ = some (.bool md) := (aa BK.out 5).trans rfl
  go_region_held3 (fun w' => w'.cell? ⟨w.heap.size, 0, none⟩ = some (.int .i64 k) ∧ w'.cell? ⟨w.heap.size, 1, none⟩ = some (.bool o) ∧ w'.cell? ⟨w.heap.size, 2, none⟩ = some (.int .u8 l) ∧ w'.cell? ⟨w.heap.size, 3, none⟩ = some (.int .u8 h) ∧ w'.cell? ⟨w.heap.size, 4, none⟩ = some (.int .u8 r) ∧ w'.cell? ⟨w.heap.size, 5, none⟩ = some (.bool md)) (go_keep)
    (first | (go_at_call 68; ((with_reducible refine (of0 k h1 h3 h5 _).mono ?_)); rintro e' w2 ⟨rfl, rfl⟩)
           | (go_at_call 110; ((with_reducible refine (low_plain k o l h r md _).mono ?_)); rintro e' w2 ⟨rfl, hb⟩; have n0 := ab.mk (af (ap BK.out) hb); have n1 := ab.mk (ak (aj HB.out) hb); clear hb; have d0 : w2.cell? ⟨w.heap.size, 0, none⟩ = some (.int .i64 k) := (aa n0.out 0).trans rfl; have d1 : w2.cell? ⟨w.heap.size, 1, none⟩ = some (.bool o) := (aa n0.out 1).trans rfl; have d2 : w2.cell? ⟨w.heap.size, 2, none⟩ = some (.int .u8 l) := (aa n0.out 2).trans rfl; have d3 : w2.cell? ⟨w.heap.size, 3, none⟩ = some (.int .u8 h) := (aa n0.out 3).trans rfl; have d4 : w2.cell? ⟨w.heap.size, 4, none⟩ = some (.int .u8 r) := (aa n0.out 4).trans rfl; have d5 : w2.cell? ⟨w.heap.size, 5, none⟩ = some (.bool md) := (aa n0.out 5).trans rfl))
  rename_i hHeld
  clear hHeld
  go_wp2
  go_returns
  exact ⟨rfl, n1.out⟩
theorem bank_high1 (k : Int) (o : Bool) (l h r : Int) (md : Bool) (a : Int)  (hp : a / 16384 = 1) (w : World) :
    Calls Try.prog 64 #[.agg #[.int .i64 1, .bool o, .int .u8 l, .int .u8 h, .int .u8 r, .bool md], .int .u16 a] w fun e' w' => e' = .returned (.int .i64 (wrap64 (wrap64 (32 * wrap64 h) + leastF l))) ∧ Below w.heap.size w w' := by
  go_enter Try.func64, Try.ntmps64
  go_wp2
  have bk := aC w (.cells #[.int .i64 1, .bool o, .int .u8 l, .int .u8 h, .int .u8 r, .bool md] 32)
  have hB := ac (Below.refl w.heap.size w) (.cells #[.int .i64 1, .bool o, .int .u8 l, .int .u8 h, .int .u8 r, .bool md] 32)
  generalize w.alloc (.cells #[.int .i64 1, .bool o, .int .u8 l, .int .u8 h, .int .u8 r, .bool md] 32) = W at bk hB ⊢
  have BK := ab.mk bk
  have HB := ab.mk hB
  clear bk hB
  have c0 : W.cell? ⟨w.heap.size, 0, none⟩ = some (.int .i64 1) := (aa BK.out 0).trans rfl
  have c1 : W.cell? ⟨w.heap.size, 1, none⟩ = some (.bool o) := (aa BK.out 1).trans rfl
  have c2 : W.cell? ⟨w.heap.size, 2, none⟩ = some (.int .u8 l) := (aa BK.out 2).trans rfl
  have c3 : W.cell? ⟨w.heap.size, 3, none⟩ = some (.int .u8 h) := (aa BK.out 3).trans rfl
  have c4 : W.cell? ⟨w.heap.size, 4, none⟩ = some (.int .u8 r) := (aa BK.out 4).trans rfl
  have c5 : W.cell? ⟨w.heap.size, 5, none⟩ = some (.bool md) := (aa BK.out 5).trans rfl
  go_region_held3 (fun w' => w'.cell? ⟨w.heap.size, 0, none⟩ = some (.int .i64 1) ∧ w'.cell? ⟨w.heap.size, 1, none⟩ = some (.bool o) ∧ w'.cell? ⟨w.heap.size, 2, none⟩ = some (.int .u8 l) ∧ w'.cell? ⟨w.heap.size, 3, none⟩ = some (.int .u8 h) ∧ w'.cell? ⟨w.heap.size, 4, none⟩ = some (.int .u8 r) ∧ w'.cell? ⟨w.heap.size, 5, none⟩ = some (.bool md)) (go_keep)
    (first | (go_at_call 68; ((with_reducible refine (of1 _).mono ?_)); rintro e' w2 ⟨rfl, rfl⟩)
           | (go_at_call 95; ((with_reducible refine (high_first 1 o l h r md _).mono ?_)); rintro e' w2 ⟨rfl, hb⟩; have n0 := ab.mk (af (ap BK.out) hb); have n1 := ab.mk (ak (aj HB.out) hb); clear hb; have d0 : w2.cell? ⟨w.heap.size, 0, none⟩ = some (.int .i64 1) := (aa n0.out 0).trans rfl; have d1 : w2.cell? ⟨w.heap.size, 1, none⟩ = some (.bool o) := (aa n0.out 1).trans rfl; have d2 : w2.cell? ⟨w.heap.size, 2, none⟩ = some (.int .u8 l) := (aa n0.out 2).trans rfl; have d3 : w2.cell? ⟨w.heap.size, 3, none⟩ = some (.int .u8 h) := (aa n0.out 3).trans rfl; have d4 : w2.cell? ⟨w.heap.size, 4, none⟩ = some (.int .u8 r) := (aa n0.out 4).trans rfl; have d5 : w2.cell? ⟨w.heap.size, 5, none⟩ = some (.bool md) := (aa n0.out 5).trans rfl))
  rename_i hHeld
  clear hHeld
  go_wp2
  go_returns
  exact ⟨rfl, n1.out⟩
theorem bank_high3 (k : Int) (o : Bool) (l h r : Int) (md : Bool) (a : Int)  (hp : a / 16384 = 1) (w : World) :
    Calls Try.prog 64 #[.agg #[.int .i64 3, .bool o, .int .u8 l, .int .u8 h, .int .u8 r, .bool md], .int .u16 a] w fun e' w' => e' = .returned (.int .i64 (leastF l)) ∧ Below w.heap.size w w' := by
  go_enter Try.func64, Try.ntmps64
  go_wp2
  have bk := aC w (.cells #[.int .i64 3, .bool o, .int .u8 l, .int .u8 h, .int .u8 r, .bool md] 32)
  have hB := ac (Below.refl w.heap.size w) (.cells #[.int .i64 3, .bool o, .int .u8 l, .int .u8 h, .int .u8 r, .bool md] 32)
  generalize w.alloc (.cells #[.int .i64 3, .bool o, .int .u8 l, .int .u8 h, .int .u8 r, .bool md] 32) = W at bk hB ⊢
  have BK := ab.mk bk
  have HB := ab.mk hB
  clear bk hB
  have c0 : W.cell? ⟨w.heap.size, 0, none⟩ = some (.int .i64 3) := (aa BK.out 0).trans rfl
  have c1 : W.cell? ⟨w.heap.size, 1, none⟩ = some (.bool o) := (aa BK.out 1).trans rfl
  have c2 : W.cell? ⟨w.heap.size, 2, none⟩ = some (.int .u8 l) := (aa BK.out 2).trans rfl
  have c3 : W.cell? ⟨w.heap.size, 3, none⟩ = some (.int .u8 h) := (aa BK.out 3).trans rfl
  have c4 : W.cell? ⟨w.heap.size, 4, none⟩ = some (.int .u8 r) := (aa BK.out 4).trans rfl
  have c5 : W.cell? ⟨w.heap.size, 5, none⟩ = some (.bool md) := (aa BK.out 5).trans rfl
  go_region_held3 (fun w' => w'.cell? ⟨w.heap.size, 0, none⟩ = some (.int .i64 3) ∧ w'.cell? ⟨w.heap.size, 1, none⟩ = some (.bool o) ∧ w'.cell? ⟨w.heap.size, 2, none⟩ = some (.int .u8 l) ∧ w'.cell? ⟨w.heap.size, 3, none⟩ = some (.int .u8 h) ∧ w'.cell? ⟨w.heap.size, 4, none⟩ = some (.int .u8 r) ∧ w'.cell? ⟨w.heap.size, 5, none⟩ = some (.bool md)) (go_keep)
    (first | (go_at_call 68; ((with_reducible refine (of3 _).mono ?_)); rintro e' w2 ⟨rfl, rfl⟩)
           | (go_at_call 101; ((with_reducible refine (high_third 3 o l h r md _).mono ?_)); rintro e' w2 ⟨rfl, hb⟩; have n0 := ab.mk (af (ap BK.out) hb); have n1 := ab.mk (ak (aj HB.out) hb); clear hb; have d0 : w2.cell? ⟨w.heap.size, 0, none⟩ = some (.int .i64 3) := (aa n0.out 0).trans rfl; have d1 : w2.cell? ⟨w.heap.size, 1, none⟩ = some (.bool o) := (aa n0.out 1).trans rfl; have d2 : w2.cell? ⟨w.heap.size, 2, none⟩ = some (.int .u8 l) := (aa n0.out 2).trans rfl; have d3 : w2.cell? ⟨w.heap.size, 3, none⟩ = some (.int .u8 h) := (aa n0.out 3).trans rfl; have d4 : w2.cell? ⟨w.heap.size, 4, none⟩ = some (.int .u8 r) := (aa n0.out 4).trans rfl; have d5 : w2.cell? ⟨w.heap.size, 5, none⟩ = some (.bool md) := (aa n0.out 5).trans rfl))
  rename_i hHeld
  clear hHeld
  go_wp2
  go_returns
  exact ⟨rfl, n1.out⟩
theorem bank_high5 (k : Int) (o : Bool) (l h r : Int) (md : Bool) (a : Int)  (hp : a / 16384 = 1) (w : World) :
    Calls Try.prog 64 #[.agg #[.int .i64 5, .bool o, .int .u8 l, .int .u8 h, .int .u8 r, .bool md], .int .u16 a] w fun e' w' => e' = .returned (.int .i64 (wrap64 (wrap64 (256 * wrap64 h) + wrap64 l))) ∧ Below w.heap.size w w' := by
  go_enter Try.func64, Try.ntmps64
  go_wp2
  have bk := aC w (.cells #[.int .i64 5, .bool o, .int .u8 l, .int .u8 h, .int .u8 r, .bool md] 32)
  have hB := ac (Below.refl w.heap.size w) (.cells #[.int .i64 5, .bool o, .int .u8 l, .int .u8 h, .int .u8 r, .bool md] 32)
  generalize w.alloc (.cells #[.int .i64 5, .bool o, .int .u8 l, .int .u8 h, .int .u8 r, .bool md] 32) = W at bk hB ⊢
  have BK := ab.mk bk
  have HB := ab.mk hB
  clear bk hB
  have c0 : W.cell? ⟨w.heap.size, 0, none⟩ = some (.int .i64 5) := (aa BK.out 0).trans rfl
  have c1 : W.cell? ⟨w.heap.size, 1, none⟩ = some (.bool o) := (aa BK.out 1).trans rfl
  have c2 : W.cell? ⟨w.heap.size, 2, none⟩ = some (.int .u8 l) := (aa BK.out 2).trans rfl
  have c3 : W.cell? ⟨w.heap.size, 3, none⟩ = some (.int .u8 h) := (aa BK.out 3).trans rfl
  have c4 : W.cell? ⟨w.heap.size, 4, none⟩ = some (.int .u8 r) := (aa BK.out 4).trans rfl
  have c5 : W.cell? ⟨w.heap.size, 5, none⟩ = some (.bool md) := (aa BK.out 5).trans rfl
  go_region_held3 (fun w' => w'.cell? ⟨w.heap.size, 0, none⟩ = some (.int .i64 5) ∧ w'.cell? ⟨w.heap.size, 1, none⟩ = some (.bool o) ∧ w'.cell? ⟨w.heap.size, 2, none⟩ = some (.int .u8 l) ∧ w'.cell? ⟨w.heap.size, 3, none⟩ = some (.int .u8 h) ∧ w'.cell? ⟨w.heap.size, 4, none⟩ = some (.int .u8 r) ∧ w'.cell? ⟨w.heap.size, 5, none⟩ = some (.bool md)) (go_keep)
    (first | (go_at_call 68; ((with_reducible refine (of5 _).mono ?_)); rintro e' w2 ⟨rfl, rfl⟩)
           | (go_at_call 105; ((with_reducible refine (high_fifth 5 o l h r md _).mono ?_)); rintro e' w2 ⟨rfl, hb⟩; have n0 := ab.mk (af (ap BK.out) hb); have n1 := ab.mk (ak (aj HB.out) hb); clear hb; have d0 : w2.cell? ⟨w.heap.size, 0, none⟩ = some (.int .i64 5) := (aa n0.out 0).trans rfl; have d1 : w2.cell? ⟨w.heap.size, 1, none⟩ = some (.bool o) := (aa n0.out 1).trans rfl; have d2 : w2.cell? ⟨w.heap.size, 2, none⟩ = some (.int .u8 l) := (aa n0.out 2).trans rfl; have d3 : w2.cell? ⟨w.heap.size, 3, none⟩ = some (.int .u8 h) := (aa n0.out 3).trans rfl; have d4 : w2.cell? ⟨w.heap.size, 4, none⟩ = some (.int .u8 r) := (aa n0.out 4).trans rfl; have d5 : w2.cell? ⟨w.heap.size, 5, none⟩ = some (.bool md) := (aa n0.out 5).trans rfl))
  rename_i hHeld
  clear hHeld
  go_wp2
  go_returns
  exact ⟨rfl, n1.out⟩
theorem bank_high0 (k : Int) (o : Bool) (l h r : Int) (md : Bool) (a : Int) (h1 : ¬ k = 1) (h3 : ¬ k = 3) (h5 : ¬ k = 5) (hp : a / 16384 = 1) (w : World) :
    Calls Try.prog 64 #[.agg #[.int .i64 k, .bool o, .int .u8 l, .int .u8 h, .int .u8 r, .bool md], .int .u16 a] w fun e' w' => e' = .returned (.int .i64 (1)) ∧ Below w.heap.size w w' := by
  go_enter Try.func64, Try.ntmps64
  go_wp2
  have bk := aC w (.cells #[.int .i64 k, .bool o, .int .u8 l, .int .u8 h, .int .u8 r, .bool md] 32)
  have hB := ac (Below.refl w.heap.size w) (.cells #[.int .i64 k, .bool o, .int .u8 l, .int .u8 h, .int .u8 r, .bool md] 32)
  generalize w.alloc (.cells #[.int .i64 k, .bool o, .int .u8 l, .int .u8 h, .int .u8 r, .bool md] 32) = W at bk hB ⊢
  have BK := ab.mk bk
  have HB := ab.mk hB
  clear bk hB
  have c0 : W.cell? ⟨w.heap.size, 0, none⟩ = some (.int .i64 k) := (aa BK.out 0).trans rfl
  have c1 : W.cell? ⟨w.heap.size, 1, none⟩ = some (.bool o) := (aa BK.out 1).trans rfl
  have c2 : W.cell? ⟨w.heap.size, 2, none⟩ = some (.int .u8 l) := (aa BK.out 2).trans rfl
  have c3 : W.cell? ⟨w.heap.size, 3, none⟩ = some (.int .u8 h) := (aa BK.out 3).trans rfl
  have c4 : W.cell? ⟨w.heap.size, 4, none⟩ = some (.int .u8 r) := (aa BK.out 4).trans rfl
  have c5 : W.cell? ⟨w.heap.size, 5, none⟩ = some (.bool md) := (aa BK.out 5).trans rfl
  go_region_held3 (fun w' => w'.cell? ⟨w.heap.size, 0, none⟩ = some (.int .i64 k) ∧ w'.cell? ⟨w.heap.size, 1, none⟩ = some (.bool o) ∧ w'.cell? ⟨w.heap.size, 2, none⟩ = some (.int .u8 l) ∧ w'.cell? ⟨w.heap.size, 3, none⟩ = some (.int .u8 h) ∧ w'.cell? ⟨w.heap.size, 4, none⟩ = some (.int .u8 r) ∧ w'.cell? ⟨w.heap.size, 5, none⟩ = some (.bool md)) (go_keep)
    (first | (go_at_call 68; ((with_reducible refine (of0 k h1 h3 h5 _).mono ?_)); rintro e' w2 ⟨rfl, rfl⟩)
           | (go_at_call 109; ((with_reducible refine (high_plain k o l h r md _).mono ?_)); rintro e' w2 ⟨rfl, hb⟩; have n0 := ab.mk (af (ap BK.out) hb); have n1 := ab.mk (ak (aj HB.out) hb); clear hb; have d0 : w2.cell? ⟨w.heap.size, 0, none⟩ = some (.int .i64 k) := (aa n0.out 0).trans rfl; have d1 : w2.cell? ⟨w.heap.size, 1, none⟩ = some (.bool o) := (aa n0.out 1).trans rfl; have d2 : w2.cell? ⟨w.heap.size, 2, none⟩ = some (.int .u8 l) := (aa n0.out 2).trans rfl; have d3 : w2.cell? ⟨w.heap.size, 3, none⟩ = some (.int .u8 h) := (aa n0.out 3).trans rfl; have d4 : w2.cell? ⟨w.heap.size, 4, none⟩ = some (.int .u8 r) := (aa n0.out 4).trans rfl; have d5 : w2.cell? ⟨w.heap.size, 5, none⟩ = some (.bool md) := (aa n0.out 5).trans rfl))
  rename_i hHeld
  clear hHeld
  go_wp2
  go_returns
  exact ⟨rfl, n1.out⟩
theorem bank_no (k : Int) (o : Bool) (l h r : Int) (md : Bool) (a : Int) (h0 : ¬ a / 16384 = 0) (h1 : ¬ a / 16384 = 1) (w : World) :
  Calls Try.prog 64 #[.agg #[.int .i64 k, .bool o, .int .u8 l, .int .u8 h, .int .u8 r, .bool md], .int .u16 a] w fun e' w' => e' = .returned (.int .i64 0) ∧ Below w.heap.size w w' := by
 go_enter Try.func64, Try.ntmps64
 go_wp2
 go_returns
 exact ⟨rfl, by go_grown⟩
def bankF (k l h : Int) (md : Bool) (q : Int) : Int :=
 if q = 0 then (if k = 1 then (if md = true then wrap64 (32 * wrap64 h) else 0) else 0)
 else if q = 1 then (if k = 1 then wrap64 (wrap64 (32 * wrap64 h) + leastF l) else if k = 3 then leastF l else if k = 5 then wrap64 (wrap64 (256 * wrap64 h) + wrap64 l) else 1)
 else 0
def cp.f (a0_0 : Int) (a0_1 : Bool) (a0_2 a0_3 a0_4 : Int) (a0_5 : Bool) (a1 : Int) : Option Int := some (bankF a0_0 a0_2 a0_3 a0_5 (a1 / 16384))
theorem cp.calls (a0_0 : Int) (a0_1 : Bool) (a0_2 a0_3 a0_4 : Int) (a0_5 : Bool) (a1 : Int) (r : Int) (w : World) (hf : cp.f a0_0 a0_1 a0_2 a0_3 a0_4 a0_5 a1 = some r) :
  Calls Try.prog 64 #[.agg #[.int .i64 a0_0, .bool a0_1, .int .u8 a0_2, .int .u8 a0_3, .int .u8 a0_4, .bool a0_5], .int .u16 a1] w fun e w' => e = .returned (.int .i64 r) ∧ Below w.heap.size w w' := by
 obtain rfl := Option.some.inj hf
 clear hf
 unfold bankF
 by_cases q0 : a1 / 16384 = 0
 ·rw [if_pos q0]
  by_cases k1 : a0_0 = 1
  ·subst k1
   rw [if_pos rfl]
   cases a0_5 with
   | true => exact bank_low1 0 _ _ _ _ true _ q0 w
   | false => exact bank_low2 0 _ _ _ _ false _ q0 w
  rw [if_neg k1]
  by_cases k3 : a0_0 = 3
  ·subst k3; exact bank_low3 0 _ _ _ _ _ _ q0 w
  by_cases k5 : a0_0 = 5
  ·subst k5; exact bank_low5 0 _ _ _ _ _ _ q0 w
  exact bank_low0 _ _ _ _ _ _ _ k1 k3 k5 q0 w
 rw [if_neg q0]
 by_cases q1 : a1 / 16384 = 1
 ·rw [if_pos q1]
  by_cases k1 : a0_0 = 1
  ·subst k1
   rw [if_pos rfl]
   exact bank_high1 0 _ _ _ _ _ _ q1 w
  rw [if_neg k1]
  by_cases k3 : a0_0 = 3
  ·subst k3
   rw [if_pos rfl]
   exact bank_high3 0 _ _ _ _ _ _ q1 w
  rw [if_neg k3]
  by_cases k5 : a0_0 = 5
  ·subst k5
   rw [if_pos rfl]
   exact bank_high5 0 _ _ _ _ _ _ q1 w
  rw [if_neg k5]
  exact bank_high0 _ _ _ _ _ _ _ k1 k3 k5 q1 w
 rw [if_neg q1]
 exact bank_no _ _ _ _ _ _ _ q0 q1 w
theorem c6 {w : World} {g : Nat} {t : TypeId} {v0 v1 v2 v3 v4 v5 : Value} (h : w.heap[g]? = some (.cells #[v0, v1, v2, v3, v4, v5] t (0, 0))) :
  w.cell? ⟨g, 0, none⟩ = some v0 ∧ w.cell? ⟨g, 1, none⟩ = some v1 ∧ w.cell? ⟨g, 2, none⟩ = some v2 ∧ w.cell? ⟨g, 3, none⟩ = some v3 ∧ w.cell? ⟨g, 4, none⟩ = some v4 ∧ w.cell? ⟨g, 5, none⟩ = some v5 :=
 ⟨(aa h 0).trans rfl, (aa h 1).trans rfl, (aa h 2).trans rfl, (aa h 3).trans rfl, (aa h 4).trans rfl, (aa h 5).trans rfl⟩
theorem put6 {w w0 : World} {g : Nat} {t : TypeId} {a0 a1 a2 a3 a4 a5 : Value} (h : w.heap[g]? = some (.cells #[a0, a1, a2, a3, a4, a5] t (0, 0))) (hb : Below w0.heap.size w0 w) (hg : w0.heap.size ≤ g) (v0 v1 v2 v3 v4 v5 : Value) :
    ((((((w.setCell ⟨g, 0, none⟩ v0).setCell ⟨g, 1, none⟩ v1).setCell ⟨g, 2, none⟩ v2).setCell ⟨g, 3, none⟩ v3).setCell ⟨g, 4, none⟩ v4).setCell ⟨g, 5, none⟩ v5).heap[g]? = some (.cells #[v0, v1, v2, v3, v4, v5] t (0, 0)) ∧
    Below w0.heap.size w0 ((((((w.setCell ⟨g, 0, none⟩ v0).setCell ⟨g, 1, none⟩ v1).setCell ⟨g, 2, none⟩ v2).setCell ⟨g, 3, none⟩ v3).setCell ⟨g, 4, none⟩ v4).setCell ⟨g, 5, none⟩ v5) :=
  ⟨an (an (an (an (an (an h 0 v0 rfl) 1 v1 rfl) 2 v2 rfl) 3 v3 rfl) 4 v4 rfl) 5 v5 rfl,
   ag (ag (ag (ag (ag (ag hb hg) hg) hg) hg) hg) hg⟩
theorem far6 {w : World} {g k : Nat} {t : TypeId} {cs : Array Value} (h : w.heap[k]? = some (.cells cs t (0, 0))) (hk : k ≠ g) (v0 v1 v2 v3 v4 v5 : Value) :
  ((((((w.setCell ⟨g, 0, none⟩ v0).setCell ⟨g, 1, none⟩ v1).setCell ⟨g, 2, none⟩ v2).setCell ⟨g, 3, none⟩ v3).setCell ⟨g, 4, none⟩ v4).setCell ⟨g, 5, none⟩ v5).heap[k]? = some (.cells cs t (0, 0)) :=
 al (al (al (al (al (al h hk v0) hk v1) hk v2) hk v3) hk v4) hk v5
def ramR (b : Int) (ok : Bool) (a s : Int) : Int :=
 if s < 1 then -1 else if ¬ a / 8192 = 5 then -1 else if ok = true then Int.tmod (wrap64 (wrap64 (wrap64 (b * 8192) + a) - 40960)) s else -1
def ramZ (ok : Bool) (a s : Int) : Int :=
 if s < 1 then -1 else if ¬ a / 8192 = 5 then -1 else if ok = true then (a - 40960) % s else -1
theorem ramR_zero (ok : Bool) (a s : Int) : ramR 0 ok a s = ramZ ok a s := by
 unfold ramR ramZ
 by_cases hs : s < 1
 ·rw [if_pos hs, if_pos hs]
 rw [if_neg hs, if_neg hs]
 by_cases hi : a / 8192 = 5
 ·simp only [hi, not_true_eq_false, if_false]
  have e : wrap64 (wrap64 (wrap64 (0 * 8192) + a) - 40960) = a - 40960 := by unfold wrap64; omega
  rw [e, Int.tmod_eq_emod_of_nonneg (by omega)]
 ·simp only [hi, not_false_eq_true, if_true]
theorem rm_first (k : Int) (o : Bool) (l h r : Int) (md : Bool) (a s b : Int) (ok : Bool)  (hw : ∀ W : World, Calls Try.prog 97 #[.agg #[], .agg #[.int .i64 1, .bool o, .int .u8 l, .int .u8 h, .int .u8 r, .bool md]] W fun e w' => e = .returned (.tuple #[.int .i64 b, .bool ok]) ∧ Below W.heap.size W w') (w : World) :
    Calls Try.prog 36 #[.agg #[.int .i64 1, .bool o, .int .u8 l, .int .u8 h, .int .u8 r, .bool md], .int .u16 a, .int .i64 s] w fun e' w' => e' = .returned (.int .i64 (ramR b ok a s)) ∧ Below w.heap.size w w' := by
  have HW := ab.mk hw
  clear hw
  unfold ramR
  rcases (show s < 1 ∨ (¬ s < 1 ∧ ¬ a / 8192 = 5) ∨ (¬ s < 1 ∧ a / 8192 = 5) by omega) with hs | ⟨hs, hi⟩ | ⟨hs, hi⟩
  all_goals first
    | rw [if_pos hs]
    | rw [if_neg hs, if_pos hi]
    | (rw [if_neg hs, if_neg (fun q => q hi)]; cases ok <;> simp only [if_true, if_false, Bool.false_eq_true])
  all_goals (
    go_enter Try.func36, Try.ntmps36
    go_wp2
    have bk := aC w (.cells #[.int .i64 1, .bool o, .int .u8 l, .int .u8 h, .int .u8 r, .bool md] 32)
    have hB := ac (Below.refl w.heap.size w) (.cells #[.int .i64 1, .bool o, .int .u8 l, .int .u8 h, .int .u8 r, .bool md] 32)
    generalize w.alloc (.cells #[.int .i64 1, .bool o, .int .u8 l, .int .u8 h, .int .u8 r, .bool md] 32) = W at bk hB ⊢
    have BK := ab.mk bk
    have HB := ab.mk hB
    clear bk hB
    obtain ⟨c0, c1, c2, c3, c4, c5⟩ := c6 BK.out
    go_region_held3 (fun w' => w'.cell? ⟨w.heap.size, 0, none⟩ = some (.int .i64 1) ∧ w'.cell? ⟨w.heap.size, 1, none⟩ = some (.bool o) ∧ w'.cell? ⟨w.heap.size, 2, none⟩ = some (.int .u8 l) ∧ w'.cell? ⟨w.heap.size, 3, none⟩ = some (.int .u8 h) ∧ w'.cell? ⟨w.heap.size, 4, none⟩ = some (.int .u8 r) ∧ w'.cell? ⟨w.heap.size, 5, none⟩ = some (.bool md)) (go_keep)
      (first | (go_at_call 68; ((with_reducible refine (of1 _).mono ?_)); rintro e' w2 ⟨rfl, rfl⟩)
             | (go_at_call 97; ((with_reducible refine (HW.out _).mono ?_)); rintro e' w2 ⟨rfl, hb⟩; have n0 := ab.mk (af (ap BK.out) hb); have n1 := ab.mk (ak (aj HB.out) hb); clear hb; obtain ⟨d0, d1, d2, d3, d4, d5⟩ := c6 n0.out))
    rename_i hHeld
    clear hHeld
    go_wp2
    go_returns
    exact ⟨rfl, n1.out⟩)
theorem rm_third (k : Int) (o : Bool) (l h r : Int) (md : Bool) (a s b : Int) (ok : Bool)  (hw : ∀ W : World, Calls Try.prog 103 #[.agg #[], .agg #[.int .i64 3, .bool o, .int .u8 l, .int .u8 h, .int .u8 r, .bool md]] W fun e w' => e = .returned (.tuple #[.int .i64 b, .bool ok]) ∧ Below W.heap.size W w') (w : World) :
    Calls Try.prog 36 #[.agg #[.int .i64 3, .bool o, .int .u8 l, .int .u8 h, .int .u8 r, .bool md], .int .u16 a, .int .i64 s] w fun e' w' => e' = .returned (.int .i64 (ramR b ok a s)) ∧ Below w.heap.size w w' := by
  have HW := ab.mk hw
  clear hw
  unfold ramR
  rcases (show s < 1 ∨ (¬ s < 1 ∧ ¬ a / 8192 = 5) ∨ (¬ s < 1 ∧ a / 8192 = 5) by omega) with hs | ⟨hs, hi⟩ | ⟨hs, hi⟩
  all_goals first
    | rw [if_pos hs]
    | rw [if_neg hs, if_pos hi]
    | (rw [if_neg hs, if_neg (fun q => q hi)]; cases ok <;> simp only [if_true, if_false, Bool.false_eq_true])
  all_goals (
    go_enter Try.func36, Try.ntmps36
    go_wp2
    have bk := aC w (.cells #[.int .i64 3, .bool o, .int .u8 l, .int .u8 h, .int .u8 r, .bool md] 32)
    have hB := ac (Below.refl w.heap.size w) (.cells #[.int .i64 3, .bool o, .int .u8 l, .int .u8 h, .int .u8 r, .bool md] 32)
    generalize w.alloc (.cells #[.int .i64 3, .bool o, .int .u8 l, .int .u8 h, .int .u8 r, .bool md] 32) = W at bk hB ⊢
    have BK := ab.mk bk
    have HB := ab.mk hB
    clear bk hB
    obtain ⟨c0, c1, c2, c3, c4, c5⟩ := c6 BK.out
    go_region_held3 (fun w' => w'.cell? ⟨w.heap.size, 0, none⟩ = some (.int .i64 3) ∧ w'.cell? ⟨w.heap.size, 1, none⟩ = some (.bool o) ∧ w'.cell? ⟨w.heap.size, 2, none⟩ = some (.int .u8 l) ∧ w'.cell? ⟨w.heap.size, 3, none⟩ = some (.int .u8 h) ∧ w'.cell? ⟨w.heap.size, 4, none⟩ = some (.int .u8 r) ∧ w'.cell? ⟨w.heap.size, 5, none⟩ = some (.bool md)) (go_keep)
      (first | (go_at_call 68; ((with_reducible refine (of3 _).mono ?_)); rintro e' w2 ⟨rfl, rfl⟩)
             | (go_at_call 103; ((with_reducible refine (HW.out _).mono ?_)); rintro e' w2 ⟨rfl, hb⟩; have n0 := ab.mk (af (ap BK.out) hb); have n1 := ab.mk (ak (aj HB.out) hb); clear hb; obtain ⟨d0, d1, d2, d3, d4, d5⟩ := c6 n0.out))
    rename_i hHeld
    clear hHeld
    go_wp2
    go_returns
    exact ⟨rfl, n1.out⟩)
theorem rm_fifth (k : Int) (o : Bool) (l h r : Int) (md : Bool) (a s b : Int) (ok : Bool)  (hw : ∀ W : World, Calls Try.prog 107 #[.agg #[], .agg #[.int .i64 5, .bool o, .int .u8 l, .int .u8 h, .int .u8 r, .bool md]] W fun e w' => e = .returned (.tuple #[.int .i64 b, .bool ok]) ∧ Below W.heap.size W w') (w : World) :
    Calls Try.prog 36 #[.agg #[.int .i64 5, .bool o, .int .u8 l, .int .u8 h, .int .u8 r, .bool md], .int .u16 a, .int .i64 s] w fun e' w' => e' = .returned (.int .i64 (ramR b ok a s)) ∧ Below w.heap.size w w' := by
  have HW := ab.mk hw
  clear hw
  unfold ramR
  rcases (show s < 1 ∨ (¬ s < 1 ∧ ¬ a / 8192 = 5) ∨ (¬ s < 1 ∧ a / 8192 = 5) by omega) with hs | ⟨hs, hi⟩ | ⟨hs, hi⟩
  all_goals first
    | rw [if_pos hs]
    | rw [if_neg hs, if_pos hi]
    | (rw [if_neg hs, if_neg (fun q => q hi)]; cases ok <;> simp only [if_true, if_false, Bool.false_eq_true])
  all_goals (
    go_enter Try.func36, Try.ntmps36
    go_wp2
    have bk := aC w (.cells #[.int .i64 5, .bool o, .int .u8 l, .int .u8 h, .int .u8 r, .bool md] 32)
    have hB := ac (Below.refl w.heap.size w) (.cells #[.int .i64 5, .bool o, .int .u8 l, .int .u8 h, .int .u8 r, .bool md] 32)
    generalize w.alloc (.cells #[.int .i64 5, .bool o, .int .u8 l, .int .u8 h, .int .u8 r, .bool md] 32) = W at bk hB ⊢
    have BK := ab.mk bk
    have HB := ab.mk hB
    clear bk hB
    obtain ⟨c0, c1, c2, c3, c4, c5⟩ := c6 BK.out
    go_region_held3 (fun w' => w'.cell? ⟨w.heap.size, 0, none⟩ = some (.int .i64 5) ∧ w'.cell? ⟨w.heap.size, 1, none⟩ = some (.bool o) ∧ w'.cell? ⟨w.heap.size, 2, none⟩ = some (.int .u8 l) ∧ w'.cell? ⟨w.heap.size, 3, none⟩ = some (.int .u8 h) ∧ w'.cell? ⟨w.heap.size, 4, none⟩ = some (.int .u8 r) ∧ w'.cell? ⟨w.heap.size, 5, none⟩ = some (.bool md)) (go_keep)
      (first | (go_at_call 68; ((with_reducible refine (of5 _).mono ?_)); rintro e' w2 ⟨rfl, rfl⟩)
             | (go_at_call 107; ((with_reducible refine (HW.out _).mono ?_)); rintro e' w2 ⟨rfl, hb⟩; have n0 := ab.mk (af (ap BK.out) hb); have n1 := ab.mk (ak (aj HB.out) hb); clear hb; obtain ⟨d0, d1, d2, d3, d4, d5⟩ := c6 n0.out))
    rename_i hHeld
    clear hHeld
    go_wp2
    go_returns
    exact ⟨rfl, n1.out⟩)
theorem rm_plain (k : Int) (o : Bool) (l h r : Int) (md : Bool) (a s b : Int) (ok : Bool) (h1 : ¬ k = 1) (h3 : ¬ k = 3) (h5 : ¬ k = 5) (hw : ∀ W : World, Calls Try.prog 111 #[.agg #[], .agg #[.int .i64 k, .bool o, .int .u8 l, .int .u8 h, .int .u8 r, .bool md]] W fun e w' => e = .returned (.tuple #[.int .i64 b, .bool ok]) ∧ Below W.heap.size W w') (w : World) :
    Calls Try.prog 36 #[.agg #[.int .i64 k, .bool o, .int .u8 l, .int .u8 h, .int .u8 r, .bool md], .int .u16 a, .int .i64 s] w fun e' w' => e' = .returned (.int .i64 (ramR b ok a s)) ∧ Below w.heap.size w w' := by
  have HW := ab.mk hw
  clear hw
  unfold ramR
  rcases (show s < 1 ∨ (¬ s < 1 ∧ ¬ a / 8192 = 5) ∨ (¬ s < 1 ∧ a / 8192 = 5) by omega) with hs | ⟨hs, hi⟩ | ⟨hs, hi⟩
  all_goals first
    | rw [if_pos hs]
    | rw [if_neg hs, if_pos hi]
    | (rw [if_neg hs, if_neg (fun q => q hi)]; cases ok <;> simp only [if_true, if_false, Bool.false_eq_true])
  all_goals (
    go_enter Try.func36, Try.ntmps36
    go_wp2
    have bk := aC w (.cells #[.int .i64 k, .bool o, .int .u8 l, .int .u8 h, .int .u8 r, .bool md] 32)
    have hB := ac (Below.refl w.heap.size w) (.cells #[.int .i64 k, .bool o, .int .u8 l, .int .u8 h, .int .u8 r, .bool md] 32)
    generalize w.alloc (.cells #[.int .i64 k, .bool o, .int .u8 l, .int .u8 h, .int .u8 r, .bool md] 32) = W at bk hB ⊢
    have BK := ab.mk bk
    have HB := ab.mk hB
    clear bk hB
    obtain ⟨c0, c1, c2, c3, c4, c5⟩ := c6 BK.out
    go_region_held3 (fun w' => w'.cell? ⟨w.heap.size, 0, none⟩ = some (.int .i64 k) ∧ w'.cell? ⟨w.heap.size, 1, none⟩ = some (.bool o) ∧ w'.cell? ⟨w.heap.size, 2, none⟩ = some (.int .u8 l) ∧ w'.cell? ⟨w.heap.size, 3, none⟩ = some (.int .u8 h) ∧ w'.cell? ⟨w.heap.size, 4, none⟩ = some (.int .u8 r) ∧ w'.cell? ⟨w.heap.size, 5, none⟩ = some (.bool md)) (go_keep)
      (first | (go_at_call 68; ((with_reducible refine (of0 k h1 h3 h5 _).mono ?_)); rintro e' w2 ⟨rfl, rfl⟩)
             | (go_at_call 111; ((with_reducible refine (HW.out _).mono ?_)); rintro e' w2 ⟨rfl, hb⟩; have n0 := ab.mk (af (ap BK.out) hb); have n1 := ab.mk (ak (aj HB.out) hb); clear hb; obtain ⟨d0, d1, d2, d3, d4, d5⟩ := c6 n0.out))
    rename_i hHeld
    clear hHeld
    go_wp2
    go_returns
    exact ⟨rfl, n1.out⟩)
def ramF (k : Int) (o : Bool) (h r : Int) (md : Bool) (a s : Int) : Int :=
 if k = 1 then (if md = true then ramR (wrap64 h) o a s else ramZ o a s) else
 if k = 3 then (if o = true then (if r < 8 then ramR (wrap64 r) true a s else ramR (wrap64 r) false a s) else ramR (wrap64 r) false a s) else
 if k = 5 then ramR (wrap64 r) o a s else ramZ true a s
def bP.f (a0_0 : Int) (a0_1 : Bool) (a0_2 a0_3 a0_4 : Int) (a0_5 : Bool) (a1 a2 : Int) : Option Int := some (ramF a0_0 a0_1 a0_3 a0_4 a0_5 a1 a2)
theorem bP.calls (a0_0 : Int) (a0_1 : Bool) (a0_2 a0_3 a0_4 : Int) (a0_5 : Bool) (a1 a2 : Int) (r : Int) (w : World) (hf : bP.f a0_0 a0_1 a0_2 a0_3 a0_4 a0_5 a1 a2 = some r) :
  Calls Try.prog 36 #[.agg #[.int .i64 a0_0, .bool a0_1, .int .u8 a0_2, .int .u8 a0_3, .int .u8 a0_4, .bool a0_5], .int .u16 a1, .int .i64 a2] w fun e w' => e = .returned (.int .i64 r) ∧ Below w.heap.size w w' := by
 obtain rfl := Option.some.inj hf
 clear hf
 unfold ramF
 by_cases k1 : a0_0 = 1
 ·subst k1
  rw [if_pos rfl]
  cases a0_5
  ·have q := rm_first 0 a0_1 a0_2 a0_3 a0_4 false a1 a2 0 a0_1 (fun W => ram_first0 1 a0_1 a0_2 a0_3 a0_4 W) w
   rw [ramR_zero] at q
   exact q
  ·exact rm_first 0 a0_1 a0_2 a0_3 a0_4 true a1 a2 _ a0_1 (fun W => ram_first1 1 a0_1 a0_2 a0_3 a0_4 W) w
 rw [if_neg k1]
 by_cases k3 : a0_0 = 3
 ·subst k3
  rw [if_pos rfl]
  cases a0_1
  ·exact rm_third 0 false _ _ _ _ _ _ _ _ (fun W => ram_third0 3 _ _ _ _ W) w
  ·rw [if_pos rfl]
   have q := rm_third 0 true a0_2 a0_3 a0_4 a0_5 a1 a2 _ _ (fun W => ram_third1 3 a0_2 a0_3 a0_4 a0_5 W) w
   by_cases hr : a0_4 < 8
   ·rw [if_pos hr]; rw [decide_eq_true hr] at q; exact q
   ·rw [if_neg hr]; rw [decide_eq_false hr] at q; exact q
 rw [if_neg k3]
 by_cases k5 : a0_0 = 5
 ·subst k5
  rw [if_pos rfl]
  exact rm_fifth 0 _ _ _ _ _ _ _ _ _ (fun W => ram_fifth 5 _ _ _ _ _ W) w
 rw [if_neg k5]
 have q := rm_plain a0_0 a0_1 a0_2 a0_3 a0_4 a0_5 a1 a2 0 true k1 k3 k5 (fun W => ram_plain a0_0 a0_1 a0_2 a0_3 a0_4 a0_5 W) w
 rw [ramR_zero] at q
 exact q
end Go.Proofs.Ytmjjojbedllmgaa.Hand
section
namespace Go.Proofs.Ytmjjojbedllmgaa.G
open Go.Proofs.Ytmjjojbedllmgaa.Hand
def bB.f (a0_0 : Int) (a0_1 : Bool) (a0_2 : Int) (a0_3 : Int) (a0_4 : Int) (a0_5 : Bool) (a1 : Int) (a2 : Int) : Option (Int) := if a2 < 1 then (some (-1)) else (if a1 ≥ 32768 then (some (-1)) else ((cp.f a0_0 a0_1 a0_2 a0_3 a0_4 a0_5 a1).bind fun t106 => (if a2 = 0 then (none) else (some (Int.tmod (wrap64 ((wrap64 (t106 * 16384)) + (Int.tmod (wrap64 (a1)) 16384))) a2)))))
theorem bB.calls (a0_0 : Int) (a0_1 : Bool) (a0_2 : Int) (a0_3 : Int) (a0_4 : Int) (a0_5 : Bool) (a1 : Int) (a2 : Int) (r : Int) (w : World) (h : bB.f a0_0 a0_1 a0_2 a0_3 a0_4 a0_5 a1 a2 = some r) :
  Calls Try.prog 33 #[.agg #[.int .i64 a0_0, .bool a0_1, .int .u8 a0_2, .int .u8 a0_3, .int .u8 a0_4, .bool a0_5], .int .u16 a1, .int .i64 a2] w fun e w' => e = .returned (.int .i64 r) ∧ Below w.heap.size w w' := by
 have hu32 := Try.underlying32
 have HB := ab.mk (Below.refl w.heap.size w)
 have H : (if a2 < 1 then (some (-1)) else (if a1 ≥ 32768 then (some (-1)) else ((cp.f a0_0 a0_1 a0_2 a0_3 a0_4 a0_5 a1).bind fun t106 => (if a2 = 0 then (none) else (some (Int.tmod (wrap64 ((wrap64 (t106 * 16384)) + (Int.tmod (wrap64 (a1)) 16384))) a2)))))) = some r := h
 clear h
 by_cases c4 : a2 < 1
 case' _ =>
  rw [if_pos c4] at H
  have c4b0 : decide (a2 < 1) = true := decide_eq_true c4
  clear c4
  obtain rfl := Option.some.inj H
 rotate_right
 case' _ =>
  rw [if_neg c4] at H
  have c4b0 : decide (a2 < 1) = false := decide_eq_false c4
  clear c4
  by_cases c6 : a1 ≥ 32768
  case' _ =>
   rw [if_pos c6] at H
   have c6b0 : decide (32768 ≤ a1) = true := decide_eq_true c6
   clear c6
   obtain rfl := Option.some.inj H
  rotate_right
  case' _ =>
   rw [if_neg c6] at H
   have c6b0 : decide (32768 ≤ a1) = false := decide_eq_false c6
   clear c6
   replace H := Option.bind_eq_some_iff.mp H
   obtain ⟨t106, A80, H⟩ := H
   replace H : (if a2 = 0 then (none) else (some (Int.tmod (wrap64 ((wrap64 (t106 * 16384)) + (Int.tmod (wrap64 (a1)) 16384))) a2))) = some r := H
   have A8 := ab.mk A80
   clear A80
   by_cases c9 : a2 = 0
   case' _ =>
    rw [if_pos c9] at H
    exact absurd H (by simp)
   rotate_right
   case' _ =>
    rw [if_neg c9] at H
    have c9b0 : (a2 == 0) = false := beq_eq_false_iff_ne.mpr c9
    have c9b1 : (a2 != 0) = true := bne_iff_ne.mpr c9
    obtain rfl := Option.some.inj H
    go_enter Try.func33, Try.ntmps33
    go_wp2_with (first | ((with_reducible refine ar (N := 3) rfl ?_); refine bf ?hg (N := 3) ?hd (cs := #[.int .i64 a0_0, .bool a0_1, .int .u8 a0_2, .int .u8 a0_3, .int .u8 a0_4, .bool a0_5]) (t := 32) ?hr ?_; (case hd => rfl); (case hg => rfl); (case hr => first | (go_simp; done) | (go_simp; rfl)); intro gb105 hg w900 hbox hb; have n0_ := ab.mk (ak (by repeat (first | (with_reducible first | exact HB.out | apply ac | apply ai | apply aj) | exact HB.out)) hb); have n1_ := ab.mk (hbox); have n2_ := ab.mk ((by rw [hg]; exact (aw (by repeat (first | (with_reducible first | exact HB.out | apply ac | apply ai | apply aj) | exact HB.out))) : w.heap.size ≤ gb105)); have n3_ := ab.mk ((by rw [hg]; exact (aw (by repeat (first | (with_reducible first | exact HB.out | apply ac | apply ai | apply aj) | exact HB.out))) : w.heap.size ≤ gb105)); clear HB; have HB := n0_; have BK105 := n1_; have GW105 := n2_; have GE105 := n3_; clear n0_ n1_ n2_ n3_; clear hb hbox hg; have hcz901_0 : w900.cell? ⟨gb105, 0, none⟩ = some (.int .i64 a0_0) := (aa BK105.out 0).trans rfl; have hcz901_1 : w900.cell? ⟨gb105, 1, none⟩ = some (.bool a0_1) := (aa BK105.out 1).trans rfl; have hcz901_2 : w900.cell? ⟨gb105, 2, none⟩ = some (.int .u8 a0_2) := (aa BK105.out 2).trans rfl; have hcz901_3 : w900.cell? ⟨gb105, 3, none⟩ = some (.int .u8 a0_3) := (aa BK105.out 3).trans rfl; have hcz901_4 : w900.cell? ⟨gb105, 4, none⟩ = some (.int .u8 a0_4) := (aa BK105.out 4).trans rfl; have hcz901_5 : w900.cell? ⟨gb105, 5, none⟩ = some (.bool a0_5) := (aa BK105.out 5).trans rfl; have hfz901_0 := ae BK105.out 0; have hfz901_1 := ae BK105.out 1; have hfz901_2 := ae BK105.out 2; have hfz901_3 := ae BK105.out 3; have hfz901_4 := ae BK105.out 4; have hfz901_5 := ae BK105.out 5) | ((with_reducible refine cn (f := 64) rfl ?_); refine goesL_ (some 15) rfl rfl Try.func64 (by kernel_rfl) rfl #[.agg #[.int .i64 a0_0, .bool a0_1, .int .u8 a0_2, .int .u8 a0_3, .int .u8 a0_4, .bool a0_5], .int .u16 a1] rfl (by (try simp only [List.map_toArray, List.map_cons, List.map_nil]); first | done | rfl | (simp only [List.length_drop, List.length_take]; rfl)) ?_; (with_reducible refine (cp.calls _ _ _ _ _ _ _ _ _ A8.out).mono ?_); rintro e w902 ⟨rfl, hb⟩; refine ⟨_, rfl, ?_⟩; have n0_ := ab.mk (af (g := gb105) (o := .cells #[.int .i64 a0_0, .bool a0_1, .int .u8 a0_2, .int .u8 a0_3, .int .u8 a0_4, .bool a0_5] 32 (0, 0)) (by (with_reducible repeat (first | refine au ?_ _ | refine ap ?_ | refine ah ?_ _)); exact BK105.out) hb); have n1_ := ab.mk (ak (by repeat (first | (with_reducible first | exact HB.out | apply ac | apply ai | apply aj | refine ag ?_ GE105.out) | exact HB.out)) hb); clear BK105; clear HB; have BK105 := n0_; have HB := n1_; clear n0_ n1_; (try clear hb); (try clear hb2); (try clear hk); (try clear hi)))
    go_ret
    exact ⟨by first | rfl | (simp [aE, aG] <;> rfl) | (simp [*, aE, aG] <;> rfl), by repeat (first | (with_reducible first | exact HB.out | apply ac | apply ai | apply aj | refine ag ?_ GE105.out) | exact HB.out)⟩
 all_goals
  go_enter Try.func33, Try.ntmps33
  go_wp2_with (first | ((with_reducible refine ar (N := 3) rfl ?_); refine bf ?hg (N := 3) ?hd (cs := #[.int .i64 a0_0, .bool a0_1, .int .u8 a0_2, .int .u8 a0_3, .int .u8 a0_4, .bool a0_5]) (t := 32) ?hr ?_; (case hd => rfl); (case hg => rfl); (case hr => first | (go_simp; done) | (go_simp; rfl)); intro gb105 hg w900 hbox hb; have n0_ := ab.mk (ak (by repeat (first | (with_reducible first | exact HB.out | apply ac | apply ai | apply aj) | exact HB.out)) hb); have n1_ := ab.mk (hbox); have n2_ := ab.mk ((by rw [hg]; exact (aw (by repeat (first | (with_reducible first | exact HB.out | apply ac | apply ai | apply aj) | exact HB.out))) : w.heap.size ≤ gb105)); have n3_ := ab.mk ((by rw [hg]; exact (aw (by repeat (first | (with_reducible first | exact HB.out | apply ac | apply ai | apply aj) | exact HB.out))) : w.heap.size ≤ gb105)); clear HB; have HB := n0_; have BK105 := n1_; have GW105 := n2_; have GE105 := n3_; clear n0_ n1_ n2_ n3_; clear hb hbox hg))
  go_ret
  exact ⟨by first | rfl | (simp [aE, aG] <;> rfl) | (simp [*, aE, aG] <;> rfl), by repeat (first | (with_reducible first | exact HB.out | apply ac | apply ai | apply aj | refine ag ?_ GE105.out) | exact HB.out)⟩
end Go.Proofs.Ytmjjojbedllmgaa.G
end
namespace Go.Proofs.Ytmjjojbedllmgaa.G
def bZ.f (a0_0 : Int) (a0_1 : Bool) (a0_2 : Int) (a0_3 : Int) (a0_4 : Int) (a0_5 : Bool) (a1 : Int) : Option (Int) := if a0_0 = 3 then (if a0_1 = true then ((bK.f a1).bind fun t108 => (if t108 = true then (if a0_4 < 8 then (some 0) else (if a0_4 > 12 then (some 0) else (some (wrap64 (a0_4))))) else (some 0))) else (some 0)) else (some 0)
theorem bZ.calls (a0_0 : Int) (a0_1 : Bool) (a0_2 : Int) (a0_3 : Int) (a0_4 : Int) (a0_5 : Bool) (a1 : Int) (r : Int) (w : World) (h : bZ.f a0_0 a0_1 a0_2 a0_3 a0_4 a0_5 a1 = some r) :
  Calls Try.prog 65 #[.agg #[.int .i64 a0_0, .bool a0_1, .int .u8 a0_2, .int .u8 a0_3, .int .u8 a0_4, .bool a0_5], .int .u16 a1] w fun e w' => e = .returned (.int .i64 r) ∧ Below w.heap.size w w' := by
 have hu32 := Try.underlying32
 have HB := ab.mk (Below.refl w.heap.size w)
 have H : (if a0_0 = 3 then (if a0_1 = true then ((bK.f a1).bind fun t108 => (if t108 = true then (if a0_4 < 8 then (some 0) else (if a0_4 > 12 then (some 0) else (some (wrap64 (a0_4))))) else (some 0))) else (some 0)) else (some 0)) = some r := h
 clear h
 by_cases c3 : a0_0 = 3
 case' _ =>
  rw [if_pos c3] at H
  have c3b0 : (a0_0 == 3) = true := beq_iff_eq.mpr c3
  have c3b1 : (a0_0 != 3) = false := bne_eq_false_iff_eq.mpr c3
  clear c3
  by_cases c4 : a0_1 = true
  case' _ =>
   subst c4
   have H1 : ((bK.f a1).bind fun t108 => (if t108 = true then (if a0_4 < 8 then (some 0) else (if a0_4 > 12 then (some 0) else (some (wrap64 (a0_4))))) else (some 0))) = some r := by rw [if_pos rfl] at H; exact H
   clear H
   have H := H1
   clear H1
   replace H := Option.bind_eq_some_iff.mp H
   obtain ⟨t108, A50, H⟩ := H
   replace H : (if t108 = true then (if a0_4 < 8 then (some 0) else (if a0_4 > 12 then (some 0) else (some (wrap64 (a0_4))))) else (some 0)) = some r := H
   have A5 := ab.mk A50
   clear A50
   by_cases c6 : t108 = true
   case' _ =>
    subst c6
    have H1 : (if a0_4 < 8 then (some 0) else (if a0_4 > 12 then (some 0) else (some (wrap64 (a0_4))))) = some r := by rw [if_pos rfl] at H; exact H
    clear H
    have H := H1
    clear H1
    by_cases c7 : a0_4 < 8
    case' _ =>
     rw [if_pos c7] at H
     have c7b0 : decide (a0_4 < 8) = true := decide_eq_true c7
     clear c7
     obtain rfl := Option.some.inj H
    rotate_right
    case' _ =>
     rw [if_neg c7] at H
     have c7b0 : decide (a0_4 < 8) = false := decide_eq_false c7
     clear c7
     by_cases c10 : a0_4 > 12
     case' _ =>
      rw [if_pos c10] at H
      have c10b0 : decide (12 < a0_4) = true := decide_eq_true c10
      clear c10
      obtain rfl := Option.some.inj H
     rotate_right
     case' _ =>
      rw [if_neg c10] at H
      have c10b0 : decide (12 < a0_4) = false := decide_eq_false c10
      clear c10
      obtain rfl := Option.some.inj H
   rotate_right
   case' _ =>
    replace c6 := Bool.eq_false_iff.mpr c6
    subst c6
    have H1 : (some 0) = some r := by rw [if_neg (show ¬ (false = true) by decide)] at H; exact H
    clear H
    have H := H1
    clear H1
    obtain rfl := Option.some.inj H
  rotate_right
  case' _ =>
   replace c4 := Bool.eq_false_iff.mpr c4
   subst c4
   have H1 : (some 0) = some r := by rw [if_neg (show ¬ (false = true) by decide)] at H; exact H
   clear H
   have H := H1
   clear H1
   obtain rfl := Option.some.inj H
   go_enter Try.func65, Try.ntmps65
   go_wp2_with (first | ((with_reducible refine ar (N := 2) rfl ?_); refine bf ?hg (N := 2) ?hd (cs := #[.int .i64 a0_0, .bool false, .int .u8 a0_2, .int .u8 a0_3, .int .u8 a0_4, .bool a0_5]) (t := 32) ?hr ?_; (case hd => rfl); (case hg => rfl); (case hr => first | (go_simp; done) | (go_simp; rfl)); intro gb107 hg w900 hbox hb; have n0_ := ab.mk (ak (by repeat (first | (with_reducible first | exact HB.out | apply ac | apply ai | apply aj) | exact HB.out)) hb); have n1_ := ab.mk (hbox); have n2_ := ab.mk ((by rw [hg]; exact (aw (by repeat (first | (with_reducible first | exact HB.out | apply ac | apply ai | apply aj) | exact HB.out))) : w.heap.size ≤ gb107)); have n3_ := ab.mk ((by rw [hg]; exact (aw (by repeat (first | (with_reducible first | exact HB.out | apply ac | apply ai | apply aj) | exact HB.out))) : w.heap.size ≤ gb107)); clear HB; have HB := n0_; have BK107 := n1_; have GW107 := n2_; have GE107 := n3_; clear n0_ n1_ n2_ n3_; clear hb hbox hg; have hcz901_0 : w900.cell? ⟨gb107, 0, none⟩ = some (.int .i64 a0_0) := (aa BK107.out 0).trans rfl; have hcz901_1 : w900.cell? ⟨gb107, 1, none⟩ = some (.bool false) := (aa BK107.out 1).trans rfl; have hcz901_2 : w900.cell? ⟨gb107, 2, none⟩ = some (.int .u8 a0_2) := (aa BK107.out 2).trans rfl; have hcz901_3 : w900.cell? ⟨gb107, 3, none⟩ = some (.int .u8 a0_3) := (aa BK107.out 3).trans rfl; have hcz901_4 : w900.cell? ⟨gb107, 4, none⟩ = some (.int .u8 a0_4) := (aa BK107.out 4).trans rfl; have hcz901_5 : w900.cell? ⟨gb107, 5, none⟩ = some (.bool a0_5) := (aa BK107.out 5).trans rfl; have hfz901_0 := ae BK107.out 0; have hfz901_1 := ae BK107.out 1; have hfz901_2 := ae BK107.out 2; have hfz901_3 := ae BK107.out 3; have hfz901_4 := ae BK107.out 4; have hfz901_5 := ae BK107.out 5))
   go_ret
   exact ⟨by first | rfl | (simp [aE, aG] <;> rfl) | (simp [*, aE, aG] <;> rfl), by repeat (first | (with_reducible first | exact HB.out | apply ac | apply ai | apply aj | refine ag ?_ GE107.out) | exact HB.out)⟩
 rotate_right
 case' _ =>
  rw [if_neg c3] at H
  have c3b0 : (a0_0 == 3) = false := beq_eq_false_iff_ne.mpr c3
  have c3b1 : (a0_0 != 3) = true := bne_iff_ne.mpr c3
  obtain rfl := Option.some.inj H
  go_enter Try.func65, Try.ntmps65
  go_wp2_with (first | ((with_reducible refine ar (N := 2) rfl ?_); refine bf ?hg (N := 2) ?hd (cs := #[.int .i64 a0_0, .bool a0_1, .int .u8 a0_2, .int .u8 a0_3, .int .u8 a0_4, .bool a0_5]) (t := 32) ?hr ?_; (case hd => rfl); (case hg => rfl); (case hr => first | (go_simp; done) | (go_simp; rfl)); intro gb107 hg w900 hbox hb; have n0_ := ab.mk (ak (by repeat (first | (with_reducible first | exact HB.out | apply ac | apply ai | apply aj) | exact HB.out)) hb); have n1_ := ab.mk (hbox); have n2_ := ab.mk ((by rw [hg]; exact (aw (by repeat (first | (with_reducible first | exact HB.out | apply ac | apply ai | apply aj) | exact HB.out))) : w.heap.size ≤ gb107)); have n3_ := ab.mk ((by rw [hg]; exact (aw (by repeat (first | (with_reducible first | exact HB.out | apply ac | apply ai | apply aj) | exact HB.out))) : w.heap.size ≤ gb107)); clear HB; have HB := n0_; have BK107 := n1_; have GW107 := n2_; have GE107 := n3_; clear n0_ n1_ n2_ n3_; clear hb hbox hg; have hcz901_0 : w900.cell? ⟨gb107, 0, none⟩ = some (.int .i64 a0_0) := (aa BK107.out 0).trans rfl; have hcz901_1 : w900.cell? ⟨gb107, 1, none⟩ = some (.bool a0_1) := (aa BK107.out 1).trans rfl; have hcz901_2 : w900.cell? ⟨gb107, 2, none⟩ = some (.int .u8 a0_2) := (aa BK107.out 2).trans rfl; have hcz901_3 : w900.cell? ⟨gb107, 3, none⟩ = some (.int .u8 a0_3) := (aa BK107.out 3).trans rfl; have hcz901_4 : w900.cell? ⟨gb107, 4, none⟩ = some (.int .u8 a0_4) := (aa BK107.out 4).trans rfl; have hcz901_5 : w900.cell? ⟨gb107, 5, none⟩ = some (.bool a0_5) := (aa BK107.out 5).trans rfl; have hfz901_0 := ae BK107.out 0; have hfz901_1 := ae BK107.out 1; have hfz901_2 := ae BK107.out 2; have hfz901_3 := ae BK107.out 3; have hfz901_4 := ae BK107.out 4; have hfz901_5 := ae BK107.out 5))
  go_ret
  exact ⟨by first | rfl | (simp [aE, aG] <;> rfl) | (simp [*, aE, aG] <;> rfl), by repeat (first | (with_reducible first | exact HB.out | apply ac | apply ai | apply aj | refine ag ?_ GE107.out) | exact HB.out)⟩
 all_goals
  go_enter Try.func65, Try.ntmps65
  go_wp2_with (first | ((with_reducible refine ar (N := 2) rfl ?_); refine bf ?hg (N := 2) ?hd (cs := #[.int .i64 a0_0, .bool true, .int .u8 a0_2, .int .u8 a0_3, .int .u8 a0_4, .bool a0_5]) (t := 32) ?hr ?_; (case hd => rfl); (case hg => rfl); (case hr => first | (go_simp; done) | (go_simp; rfl)); intro gb107 hg w900 hbox hb; have n0_ := ab.mk (ak (by repeat (first | (with_reducible first | exact HB.out | apply ac | apply ai | apply aj) | exact HB.out)) hb); have n1_ := ab.mk (hbox); have n2_ := ab.mk ((by rw [hg]; exact (aw (by repeat (first | (with_reducible first | exact HB.out | apply ac | apply ai | apply aj) | exact HB.out))) : w.heap.size ≤ gb107)); have n3_ := ab.mk ((by rw [hg]; exact (aw (by repeat (first | (with_reducible first | exact HB.out | apply ac | apply ai | apply aj) | exact HB.out))) : w.heap.size ≤ gb107)); clear HB; have HB := n0_; have BK107 := n1_; have GW107 := n2_; have GE107 := n3_; clear n0_ n1_ n2_ n3_; clear hb hbox hg; have hcz901_0 : w900.cell? ⟨gb107, 0, none⟩ = some (.int .i64 a0_0) := (aa BK107.out 0).trans rfl; have hcz901_1 : w900.cell? ⟨gb107, 1, none⟩ = some (.bool true) := (aa BK107.out 1).trans rfl; have hcz901_2 : w900.cell? ⟨gb107, 2, none⟩ = some (.int .u8 a0_2) := (aa BK107.out 2).trans rfl; have hcz901_3 : w900.cell? ⟨gb107, 3, none⟩ = some (.int .u8 a0_3) := (aa BK107.out 3).trans rfl; have hcz901_4 : w900.cell? ⟨gb107, 4, none⟩ = some (.int .u8 a0_4) := (aa BK107.out 4).trans rfl; have hcz901_5 : w900.cell? ⟨gb107, 5, none⟩ = some (.bool a0_5) := (aa BK107.out 5).trans rfl; have hfz901_0 := ae BK107.out 0; have hfz901_1 := ae BK107.out 1; have hfz901_2 := ae BK107.out 2; have hfz901_3 := ae BK107.out 3; have hfz901_4 := ae BK107.out 4; have hfz901_5 := ae BK107.out 5) | (go_at_call 69; (with_reducible refine (bK.calls _ _ _ A5.out).mono ?_); rintro e w' ⟨rfl, ⟨nd, rfl⟩⟩))
  go_ret
  exact ⟨by first | rfl | (simp [aE, aG] <;> rfl) | (simp [*, aE, aG] <;> rfl), by repeat (first | (with_reducible first | exact HB.out | apply ac | apply ai | apply aj | refine ag ?_ GE107.out) | exact HB.out)⟩
end Go.Proofs.Ytmjjojbedllmgaa.G
section
namespace Go.Proofs.Ytmjjojbedllmgaa.Pure
open Go.Proofs.Ytmjjojbedllmgaa.Hand
theorem least_is (l : Int) (h : 0 ≤ l ∧ l ≤ 255) : leastF l = if wrap64 l = 0 then 1 else wrap64 l := by
 unfold leastF
 rw [wrap64_in (x := l) (by omega)]
 by_cases c : l = 0
 ·rw [if_pos (by omega), if_pos c]
 ·rw [if_neg (by omega), if_neg c]
theorem bank_bd (k l h : Int) (md : Bool) (q : Int) (hl : 0 ≤ l ∧ l ≤ 255) (hh : 0 ≤ h ∧ h ≤ 255) : 0 ≤ bankF k l h md q ∧ bankF k l h md q ≤ 70000 := by
 unfold bankF
 rw [least_is l hl, wrap64_in (x := l) (by omega), wrap64_in (x := h) (by omega), wrap64_in (x := 32 * h) (by omega), wrap64_in (x := 256 * h) (by omega), wrap64_in (x := 256 * h + l) (by omega)]
 have e : ∀ x : Int, 0 ≤ x → x ≤ 255 → wrap64 (32 * h + x) = 32 * h + x := fun x h1 h2 => wrap64_in (by omega)
 rw [e _ (by split <;> omega) (by split <;> omega)]
 split
 ·split
  ·split <;> omega
  ·omega
 ·split
  ·split
   ·split <;> omega
   ·split
    ·split <;> omega
    ·split <;> omega
  ·omega
theorem rom_is (k : Int) (o : Bool) (l h r : Int) (md : Bool) (a s : Int) (hl : 0 ≤ l ∧ l ≤ 255) (hh : 0 ≤ h ∧ h ≤ 255) (ha : 0 ≤ a ∧ a ≤ 65535) :
  bB.f k o l h r md a s = some (if s < 1 then -1 else if a ≥ 32768 then -1 else (bankF k l h md (a / 16384) * 16384 + a % 16384) % s) := by
 unfold bB.f cp.f
 have hb := bank_bd k l h md (a / 16384) hl hh
 generalize bankF k l h md (a / 16384) = t at hb
 by_cases c0 : s < 1
 ·rw [if_pos c0, if_pos c0]
 rw [if_neg c0, if_neg c0]
 by_cases c1 : a ≥ 32768
 ·rw [if_pos c1, if_pos c1]
 rw [if_neg c1, if_neg c1]
 simp only [Option.bind_some]
 rw [if_neg (by omega), wrap64_in (x := a) (by omega), Int.tmod_eq_emod_of_nonneg ha.1, wrap64_in (x := t * 16384) (by omega), wrap64_in (x := t * 16384 + a % 16384) (by omega), Int.tmod_eq_emod_of_nonneg (by omega)]
theorem ram_bd (k : Int) (o : Bool) (l h r : Int) (md : Bool) (a s : Int) (hh : 0 ≤ h ∧ h ≤ 255) (hr : 0 ≤ r ∧ r ≤ 255) (ha : 0 ≤ a ∧ a ≤ 65535) :
  ∃ x, bP.f k o l h r md a s = some x ∧ -1 ≤ x ∧ (0 ≤ x → x < s ∧ 40960 ≤ a ∧ a ≤ 49151 ∧ (k = 3 → r < 8)) := by
 refine ⟨ramF k o h r md a s, rfl, ?_⟩
 have hR : ∀ (b : Int) (ok : Bool), 0 ≤ b → b ≤ 255 → -1 ≤ ramR b ok a s ∧ (0 ≤ ramR b ok a s → ramR b ok a s < s ∧ 40960 ≤ a ∧ a ≤ 49151 ∧ ok = true) := by
  intro b ok b0 b1
  unfold ramR
  by_cases c0 : s < 1
  ·rw [if_pos c0]; omega
  rw [if_neg c0]
  by_cases c1 : a / 8192 = 5
  ·rw [if_neg (by simpa using c1)]
   cases ok with
   | false => rw [if_neg (by simp)]; omega
   | true =>
    rw [if_pos rfl, wrap64_in (x := b * 8192) (by omega), wrap64_in (x := b * 8192 + a) (by omega), wrap64_in (x := b * 8192 + a - 40960) (by omega), Int.tmod_eq_emod_of_nonneg (by omega)]
    have h1 := Int.emod_nonneg (b * 8192 + a - 40960) (show s ≠ 0 by omega)
    have h2 := Int.emod_lt_of_pos (b * 8192 + a - 40960) (show 0 < s by omega)
    exact ⟨by omega, fun _ => ⟨by omega, by omega, by omega, rfl⟩⟩
  ·rw [if_pos c1]; omega
 have hZ : ∀ (ok : Bool), -1 ≤ ramZ ok a s ∧ (0 ≤ ramZ ok a s → ramZ ok a s < s ∧ 40960 ≤ a ∧ a ≤ 49151) := by
  intro ok
  unfold ramZ
  by_cases c0 : s < 1
  ·rw [if_pos c0]; omega
  rw [if_neg c0]
  by_cases c1 : a / 8192 = 5
  ·rw [if_neg (by simpa using c1)]
   cases ok with
   | false => rw [if_neg (by simp)]; omega
   | true =>
    rw [if_pos rfl]
    have h1 := Int.emod_nonneg (a - 40960) (show s ≠ 0 by omega)
    have h2 := Int.emod_lt_of_pos (a - 40960) (show 0 < s by omega)
    omega
  ·rw [if_pos c1]; omega
 have w1 : wrap64 h = h := wrap64_in (by omega)
 have w2 : wrap64 r = r := wrap64_in (by omega)
 unfold ramF
 rw [w1, w2]
 by_cases k1 : k = 1
 ·rw [if_pos k1]
  split
  ·obtain ⟨q1, q2⟩ := hR h o hh.1 hh.2
   exact ⟨q1, fun q => ⟨(q2 q).1, (q2 q).2.1, (q2 q).2.2.1, fun e => absurd e (by omega)⟩⟩
  ·obtain ⟨q1, q2⟩ := hZ o
   exact ⟨q1, fun q => ⟨(q2 q).1, (q2 q).2.1, (q2 q).2.2, fun e => absurd e (by omega)⟩⟩
 rw [if_neg k1]
 by_cases k3 : k = 3
 ·rw [if_pos k3]
  split
  ·split
   ·rename_i hr8
    obtain ⟨q1, q2⟩ := hR r true hr.1 hr.2
    exact ⟨q1, fun q => ⟨(q2 q).1, (q2 q).2.1, (q2 q).2.2.1, fun e => hr8⟩⟩
   ·obtain ⟨q1, q2⟩ := hR r false hr.1 hr.2
    exact ⟨q1, fun q => absurd (q2 q).2.2.2 (by simp)⟩
  ·obtain ⟨q1, q2⟩ := hR r false hr.1 hr.2
   exact ⟨q1, fun q => absurd (q2 q).2.2.2 (by simp)⟩
 rw [if_neg k3]
 split
 ·obtain ⟨q1, q2⟩ := hR r o hr.1 hr.2
  exact ⟨q1, fun q => ⟨(q2 q).1, (q2 q).2.1, (q2 q).2.2.1, fun e => absurd e k3⟩⟩
 ·obtain ⟨q1, q2⟩ := hZ true
  exact ⟨q1, fun q => ⟨(q2 q).1, (q2 q).2.1, (q2 q).2.2, fun e => absurd e k3⟩⟩
theorem reg_bd (k : Int) (o : Bool) (l h r : Int) (md : Bool) (a : Int) (hr : 0 ≤ r ∧ r ≤ 255) : ∃ z, bZ.f k o l h r md a = some z ∧ (z > 0 → k = 3 ∧ 8 ≤ r) := by
 unfold bZ.f bK.f
 simp only [Option.bind_some]
 split
 ·split
  ·split
   ·split
    ·exact ⟨_, rfl, fun q => absurd q (by omega)⟩
    ·split
     ·exact ⟨_, rfl, fun q => absurd q (by omega)⟩
     ·exact ⟨_, rfl, fun _ => ⟨by assumption, by omega⟩⟩
   ·exact ⟨_, rfl, fun q => absurd q (by omega)⟩
  ·exact ⟨_, rfl, fun q => absurd q (by omega)⟩
 ·exact ⟨_, rfl, fun q => absurd q (by omega)⟩
end Go.Proofs.Ytmjjojbedllmgaa.Pure
end
namespace Go.Proofs.Ytmjjojbedllmgaa.G
def aV.f (a0_0 : Int) (a0_1 : Int) (a0_2 : Int) (a0_3 : Int) (a0_4 : Bool) (a0_5 : Bool) : Option (Int × Int × Int × Int × Bool × Bool) := some (Go.bits .and .u8 a0_0 63, Go.bits .and .u8 a0_1 63, Go.bits .and .u8 a0_2 31, Go.bits .and .u16 a0_3 511, a0_4, a0_5)
theorem aV.calls (a0_0 : Int) (a0_1 : Int) (a0_2 : Int) (a0_3 : Int) (a0_4 : Bool) (a0_5 : Bool) (r1 : Int) (r2 : Int) (r3 : Int) (r4 : Int) (r5 : Bool) (r6 : Bool) (w : World) (h : aV.f a0_0 a0_1 a0_2 a0_3 a0_4 a0_5 = some (r1, r2, r3, r4, r5, r6)) :
  Calls Try.prog 66 #[.agg #[.int .u8 a0_0, .int .u8 a0_1, .int .u8 a0_2, .int .u16 a0_3, .bool a0_4, .bool a0_5]] w fun e w' => e = .returned (.agg #[.int .u8 r1, .int .u8 r2, .int .u8 r3, .int .u16 r4, .bool r5, .bool r6]) ∧ Below w.heap.size w w' := by
 have hu34 := Try.underlying34
 have HB := ab.mk (Below.refl w.heap.size w)
 have H : (some (Go.bits .and .u8 a0_0 63, Go.bits .and .u8 a0_1 63, Go.bits .and .u8 a0_2 31, Go.bits .and .u16 a0_3 511, a0_4, a0_5)) = some (r1, r2, r3, r4, r5, r6) := h
 clear h
 simp only [Option.some.injEq, Prod.mk.injEq] at H
 obtain ⟨rfl, rfl, rfl, rfl, rfl, rfl⟩ := H
 go_enter Try.func66, Try.ntmps66
 go_wp2_with (first | ((with_reducible refine ar (N := 1) rfl ?_); refine bf ?hg (N := 1) ?hd (cs := #[.int .u8 a0_0, .int .u8 a0_1, .int .u8 a0_2, .int .u16 a0_3, .bool a0_4, .bool a0_5]) (t := 34) ?hr ?_; (case hd => rfl); (case hg => rfl); (case hr => first | (go_simp; done) | (go_simp; rfl)); intro gb109 hg w2 hbox hb; have n0_ := ab.mk (ak (by repeat (first | (with_reducible first | exact HB.out | apply ac | apply ai | apply aj) | exact HB.out)) hb); have n1_ := ab.mk (hbox); have n2_ := ab.mk ((by rw [hg]; exact (aw (by repeat (first | (with_reducible first | exact HB.out | apply ac | apply ai | apply aj) | exact HB.out))) : w.heap.size ≤ gb109)); have n3_ := ab.mk ((by rw [hg]; exact (aw (by repeat (first | (with_reducible first | exact HB.out | apply ac | apply ai | apply aj) | exact HB.out))) : w.heap.size ≤ gb109)); clear HB; have HB := n0_; have BK109 := n1_; have GW109 := n2_; have GE109 := n3_; clear n0_ n1_ n2_ n3_; clear hb hbox hg) | ((with_reducible refine ar (N := 2) rfl ?_); refine bf ?hg (N := 2) ?hd (cs := #[.int .u8 0, .int .u8 0, .int .u8 0, .int .u16 0, .bool false, .bool false]) (t := 34) ?hr ?_; (case hd => rfl); (case hg => rfl); (case hr => first | (go_simp; done) | (go_simp; rfl)); intro gb110 hg w3 hbox hb; have n0_ := ab.mk (af (g := gb109) (o := .cells #[.int .u8 a0_0, .int .u8 a0_1, .int .u8 a0_2, .int .u16 a0_3, .bool a0_4, .bool a0_5] 34 (0, 0)) (by (with_reducible repeat (first | refine au ?_ _ | refine ap ?_ | refine ah ?_ _)); exact BK109.out) hb); have n1_ := ab.mk (ak (by repeat (first | (with_reducible first | exact HB.out | apply ac | apply ai | apply aj | refine ag ?_ GE109.out) | exact HB.out)) hb); have n2_ := ab.mk (hbox); have n3_ := ab.mk ((by rw [hg]; exact (aw (by repeat (first | (with_reducible first | exact HB.out | apply ac | apply ai | apply aj | refine ag ?_ GE109.out) | exact HB.out))) : w.heap.size ≤ gb110)); have n4_ := ab.mk ((by rw [hg]; exact (aw (by repeat (first | (with_reducible first | exact HB.out | apply ac | apply ai | apply aj | refine ag ?_ GE109.out) | exact HB.out))) : w.heap.size ≤ gb110)); have n5_ := ab.mk ((by rw [hg]; exact Nat.ne_of_lt (aZ (g := gb109) (o := .cells #[.int .u8 a0_0, .int .u8 a0_1, .int .u8 a0_2, .int .u16 a0_3, .bool a0_4, .bool a0_5] 34 (0, 0)) (by (with_reducible repeat (first | refine au ?_ _ | refine ap ?_ | refine ah ?_ _)); exact BK109.out)) : gb109 ≠ gb110)); have n6_ := ab.mk ((by rw [hg]; exact Nat.ne_of_gt (aZ (g := gb109) (o := .cells #[.int .u8 a0_0, .int .u8 a0_1, .int .u8 a0_2, .int .u16 a0_3, .bool a0_4, .bool a0_5] 34 (0, 0)) (by (with_reducible repeat (first | refine au ?_ _ | refine ap ?_ | refine ah ?_ _)); exact BK109.out)) : gb110 ≠ gb109)); clear BK109; clear HB; have BK109 := n0_; have HB := n1_; have BK110 := n2_; have GW110 := n3_; have GE110 := n4_; have NB109_110 := n5_; have NB110_109 := n6_; clear n0_ n1_ n2_ n3_ n4_ n5_ n6_; clear hb hbox hg; have hnb4 := NB109_110.out; have hnc4 := NB110_109.out; have hcz5_0 : w3.cell? ⟨gb109, 0, none⟩ = some (.int .u8 a0_0) := (aa BK109.out 0).trans rfl; have hcz5_1 : w3.cell? ⟨gb109, 1, none⟩ = some (.int .u8 a0_1) := (aa BK109.out 1).trans rfl; have hcz5_2 : w3.cell? ⟨gb109, 2, none⟩ = some (.int .u8 a0_2) := (aa BK109.out 2).trans rfl; have hcz5_3 : w3.cell? ⟨gb109, 3, none⟩ = some (.int .u16 a0_3) := (aa BK109.out 3).trans rfl; have hcz5_4 : w3.cell? ⟨gb109, 4, none⟩ = some (.bool a0_4) := (aa BK109.out 4).trans rfl; have hcz5_5 : w3.cell? ⟨gb109, 5, none⟩ = some (.bool a0_5) := (aa BK109.out 5).trans rfl; have hfz5_0 := ae BK109.out 0; have hfz5_1 := ae BK109.out 1; have hfz5_2 := ae BK109.out 2; have hfz5_3 := ae BK109.out 3; have hfz5_4 := ae BK109.out 4; have hfz5_5 := ae BK109.out 5; have hcz6_0 : w3.cell? ⟨gb110, 0, none⟩ = some (.int .u8 0) := (aa BK110.out 0).trans rfl; have hcz6_1 : w3.cell? ⟨gb110, 1, none⟩ = some (.int .u8 0) := (aa BK110.out 1).trans rfl; have hcz6_2 : w3.cell? ⟨gb110, 2, none⟩ = some (.int .u8 0) := (aa BK110.out 2).trans rfl; have hcz6_3 : w3.cell? ⟨gb110, 3, none⟩ = some (.int .u16 0) := (aa BK110.out 3).trans rfl; have hcz6_4 : w3.cell? ⟨gb110, 4, none⟩ = some (.bool false) := (aa BK110.out 4).trans rfl; have hcz6_5 : w3.cell? ⟨gb110, 5, none⟩ = some (.bool false) := (aa BK110.out 5).trans rfl; have hfz6_0 := ae BK110.out 0; have hfz6_1 := ae BK110.out 1; have hfz6_2 := ae BK110.out 2; have hfz6_3 := ae BK110.out 3; have hfz6_4 := ae BK110.out 4; have hfz6_5 := ae BK110.out 5))
 refine bodyPost_ret (results_cell_row rfl _ _ gb110 34 #[.int .u8 (Go.bits .and .u8 a0_0 63), .int .u8 (Go.bits .and .u8 a0_1 63), .int .u8 (Go.bits .and .u8 a0_2 31), .int .u16 (Go.bits .and .u16 a0_3 511), .bool a0_4, .bool a0_5] (0, 0) _ rfl (by (with_reducible repeat (first | refine au ?_ _ | refine ap ?_ | refine ah ?_ _)); refine an (cs := #[.int .u8 (Go.bits .and .u8 a0_0 63), .int .u8 (Go.bits .and .u8 a0_1 63), .int .u8 (Go.bits .and .u8 a0_2 31), .int .u16 (Go.bits .and .u16 a0_3 511), .bool a0_4, .bool false]) ?_ 5 _ rfl; (with_reducible repeat (first | refine au ?_ _ | refine ap ?_ | refine ah ?_ _)); refine an (cs := #[.int .u8 (Go.bits .and .u8 a0_0 63), .int .u8 (Go.bits .and .u8 a0_1 63), .int .u8 (Go.bits .and .u8 a0_2 31), .int .u16 (Go.bits .and .u16 a0_3 511), .bool false, .bool false]) ?_ 4 _ rfl; (with_reducible repeat (first | refine au ?_ _ | refine ap ?_ | refine ah ?_ _)); refine an (cs := #[.int .u8 (Go.bits .and .u8 a0_0 63), .int .u8 (Go.bits .and .u8 a0_1 63), .int .u8 (Go.bits .and .u8 a0_2 31), .int .u16 0, .bool false, .bool false]) ?_ 3 _ rfl; (with_reducible repeat (first | refine au ?_ _ | refine ap ?_ | refine ah ?_ _)); refine an (cs := #[.int .u8 (Go.bits .and .u8 a0_0 63), .int .u8 (Go.bits .and .u8 a0_1 63), .int .u8 0, .int .u16 0, .bool false, .bool false]) ?_ 2 _ rfl; (with_reducible repeat (first | refine au ?_ _ | refine ap ?_ | refine ah ?_ _)); refine an (cs := #[.int .u8 (Go.bits .and .u8 a0_0 63), .int .u8 0, .int .u8 0, .int .u16 0, .bool false, .bool false]) ?_ 1 _ rfl; (with_reducible repeat (first | refine au ?_ _ | refine ap ?_ | refine ah ?_ _)); refine an (cs := #[.int .u8 0, .int .u8 0, .int .u8 0, .int .u16 0, .bool false, .bool false]) ?_ 0 _ rfl; (with_reducible repeat (first | refine au ?_ _ | refine ap ?_ | refine ah ?_ _)); refine al ?_ NB110_109.out _; (with_reducible repeat (first | refine au ?_ _ | refine ap ?_ | refine ah ?_ _)); refine al ?_ NB110_109.out _; (with_reducible repeat (first | refine au ?_ _ | refine ap ?_ | refine ah ?_ _)); refine al ?_ NB110_109.out _; (with_reducible repeat (first | refine au ?_ _ | refine ap ?_ | refine ah ?_ _)); refine al ?_ NB110_109.out _; (with_reducible repeat (first | refine au ?_ _ | refine ap ?_ | refine ah ?_ _)); exact BK110.out) Try.underlying34 rfl (by kernel_rfl)) rfl ?_
 exact ⟨by first | rfl | (simp [aE, aG] <;> rfl) | (simp [*, aE, aG] <;> rfl), by repeat (first | (with_reducible first | exact HB.out | apply ac | apply ai | apply aj | refine ag ?_ GE109.out | refine ag ?_ GE110.out) | exact HB.out)⟩
end Go.Proofs.Ytmjjojbedllmgaa.G
