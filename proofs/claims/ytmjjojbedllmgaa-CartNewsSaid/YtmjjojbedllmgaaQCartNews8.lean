/- What the proof of the statement CartNews stands on, part 8. (Packed by pack.py out of this session's texts.) -/
import Derived.Handy
import Derived.Lib.BufferWrite
import Derived.Laws.AppendOwn
import Derived.Laws.CopyOwn
import Derived.Laws.OwnMore
import Derived.Deep.MidRow
import Derived.Test.YtmjjojbedllmgaaQCartNews0
import Derived.Test.YtmjjojbedllmgaaQCartNews2
import Derived.Test.YtmjjojbedllmgaaQCartNews3
import Derived.Test.YtmjjojbedllmgaaQCartNews5
import Derived.Test.YtmjjojbedllmgaaQCartNews6
import Derived.Test.YtmjjojbedllmgaaQCartNews7
set_option linter.unusedVariables false
set_option linter.unusedSimpArgs false
set_option maxRecDepth 100000
set_option maxHeartbeats 8000000
section
namespace Go.Proofs.Ytmjjojbedllmgaa.Hand
open Go.RowKit
open Go.Proofs.Ytmjjojbedllmgaa.G
open Go.Proofs.YtmjjojbedllmgaaW.PrintWords Go.Proofs.YtmjjojbedllmgaaW.PrintLast Go.Proofs.YtmjjojbedllmgaaW.PrintMore
open Go.Proofs.Ytmjjojbedllmgaa.Pure
structure RefAt (w : World) (B : Nat) (r : Rt) : Prop where
 img : Kd.C (Kd.int .u8) w r.Ai r.s.img.length r.s.img
 ci : r.s.img.length ≤ r.ci
 ram : Held w B r.Ar r.cr r.s.ram
theorem RefAt.upto {w w' : World} {B : Nat} {r : Rt} {S : Nat → Prop} (h : RefAt w B r) (hi : Kd.C (Kd.int .u8) w' r.Ai r.s.img.length r.s.img) (u : Upto S w w') (hS : ∀ k, S k → k < B) : RefAt w' B r := ⟨hi, h.ci, h.ram.upto u hS⟩
theorem RefAt.below {w w' : World} {B : Nat} {r : Rt} (h : RefAt w B r) (hb : Below w.heap.size w w') : RefAt w' B r := ⟨Kd.C_below h.img hb, h.ci, h.ram.below hb⟩
theorem RefAt.rt {w : World} {B : Nat} {r : Rt} (h : RefAt w B r) : RtAt w r := ⟨h.img, h.ci, h.ram.C, h.ram.1⟩
theorem regN_nn {s : Ct} (ok : s.Ok) (ad : Int) : 0 ≤ s.regN ad := by
 have h := reg_of ok ad
 unfold Ct.reg at h
 split at h
 ·unfold mapper_Reg.f mapper_inside.f at h
  simp only [Option.bind_some] at h
  have r0 := ok.m.r0
  split at h
  ·split at h
   ·split at h
    ·split at h
     ·simp at h; omega
     ·split at h
      ·simp at h; omega
      ·have e := Option.some.inj h
       rw [← e, IntWalk.wrap64_in _ (by have := ok.m.r1; omega)]
       omega
    ·simp at h; omega
   ·simp at h; omega
  ·simp at h; omega
 ·simp at h; omega
theorem rreg_at (s : Ct) (Ai : Option Addr) (ci : Nat) (Ar : Option Addr) (cr : Nat) (ok : s.Ok) (ad : Int) (ha : 0 ≤ ad ∧ ad ≤ 65535) : Puts 38 #[(⟨s, Ai, ci, Ar, cr⟩ : Rt).v, .int .u16 ad] (.int .i64 (s.regN ad)) := by
 have h := reg_of ok ad
 unfold Ct.reg at h
 cases hck : s.hdr.ck
 case false =>
  rw [hck, if_neg (by decide)] at h
  rw [← Option.some.inj h]
  exact rreg_no (⟨s, Ai, ci, Ar, cr⟩ : Rt) ad hck
 case true =>
  rw [hck, if_pos rfl] at h
  exact rreg_yes (⟨s, Ai, ci, Ar, cr⟩ : Rt) ad _ hck (rmap_reg ad ha _ h)
theorem rread_at {w : World} {B : Nat} (s : Ct) (Ai : Option Addr) (ci : Nat) (Ar : Option Addr) (cr : Nat) (h : RefAt w B (⟨s, Ai, ci, Ar, cr⟩ : Rt)) (ok : s.Ok) (nm : Nm s) (ad : Int) (ha : 0 ≤ ad ∧ ad ≤ 65535) :
  Calls Try.prog 14 #[(⟨s, Ai, ci, Ar, cr⟩ : Rt).v, .int .u16 ad] w fun e w' => e = .returned (.int .u8 (s.read ad)) ∧ Below w.heap.size w w' := by
 unfold Ct.read
 by_cases hlo : ad < 32768
 ·rw [if_pos hlo]
  obtain ⟨_, h2, h3⟩ := rom_lo ok ad ha hlo
  exact rread_rom s Ai ci Ar cr ad _ (decide_eq_true hlo) h2 h3 w h.rt (rmap_rom ok ad ha hlo)
 rw [if_neg hlo]
 have hr := rreg_at s Ai ci Ar cr ok ad ha
 have hn := regN_nn ok ad
 by_cases hm : s.regN ad > 0
 ·rw [if_pos hm]
  exact rread_reg s Ai ci Ar cr ad _ _ _ (decide_eq_false hlo) (beq_eq_false_iff_ne.mpr (by omega)) hr (rclk_read s.hd nm.hd _) w
 rw [if_neg hm]
 rw [show s.regN ad = 0 by omega] at hr
 have hat := rmap_ram s ad ha
 by_cases h0 : s.at ad ≥ 0
 ·rw [if_pos h0]
  exact rread_ram s Ai ci Ar cr ad _ (decide_eq_false hlo) (decide_eq_false (by omega)) (at_lt ok ad ha h0) hr hat w h.rt
 ·rw [if_neg h0]
  exact rread_no s Ai ci Ar cr ad _ (decide_eq_false hlo) (decide_eq_true (by omega)) hr hat w h.rt
theorem rnew_at (A : Option Addr) (c : Nat) (l : List Int) (w : World) (hr : Kd.C (Kd.int .u8) w A l.length l) (hc : l.length ≤ c) (hb : Bytes l) (he : headE l = 0) :
  Calls Try.prog 11 #[.slice A l.length c] w fun e' w' => ∃ A' c', e' = .returned (.tuple #[(⟨newC l, A, c, A', c'⟩ : Rt).v, .int .i64 0]) ∧ RefAt w' w.heap.size ⟨newC l, A, c, A', c'⟩ ∧ Below w.heap.size w w' := by
 obtain ⟨h1, h2, h3, h4, h5⟩ := head_ok hb he
 have hp : ∀ w1 : World, Below w.heap.size w w1 → Calls Try.prog 30 #[.slice A l.length c] w1 fun e' w' => e' = .returned (.tuple #[(headOf l).v, .int .i64 0]) ∧ Below w1.heap.size w1 w' := by
  intro w1 hbw
  have q := rparse_at A c l hb w1 (Kd.C_below hr hbw) hc
  rw [he] at q
  exact q
 refine (rnew_ok A c l (headOf l) w hp hr hc (rmap_new _ ?_) h4 (by omega)).mono ?_
 ·unfold mapper_New.f at h3
  by_cases k0 : (headOf l).mp = 0
  ·exact Or.inl k0
  by_cases k1 : (headOf l).mp = 1
  ·exact Or.inr (Or.inl k1)
  by_cases k3 : (headOf l).mp = 3
  ·exact Or.inr (Or.inr (Or.inl k3))
  by_cases k5 : (headOf l).mp = 5
  ·exact Or.inr (Or.inr (Or.inr k5))
  rw [if_neg k0, if_neg k1, if_neg k3, if_neg k5] at h3
  simp at h3
 rintro e w' ⟨g, he', hh, hg, hb'⟩
 exact ⟨some ⟨g, 0, none⟩, _, he', ⟨Kd.C_below hr hb', hc, by simp [newC, Ct.new], by simp [newC, Ct.new]; omega, Or.inr ⟨g, rfl, hg, hh⟩⟩, hb'⟩
theorem rnew_no (A : Option Addr) (c : Nat) (l : List Int) (w : World) (hr : Kd.C (Kd.int .u8) w A l.length l) (hc : l.length ≤ c) (hb : Bytes l) (he : ¬ headE l = 0) :
  Calls Try.prog 11 #[.slice A l.length c] w fun e' w' => e' = .returned (.tuple #[.agg #[.bool false, .string ⟨#[]⟩, .int .u8 0, .int .i64 0, .bool false, .bool false, .bool false, .int .i64 0, .int .i64 0, .int .u8 0, .int .u16 0, .slice none 0 0, .slice none 0 0, .int .i64 0, .bool false, .int .u8 0, .int .u8 0, .int .u8 0, .bool false, .int .u8 0, .int .u8 0, .int .u8 0, .int .u16 0, .bool false, .bool false, .int .u8 0, .int .u8 0, .int .u8 0, .int .u16 0, .bool false, .bool false, .int .u8 0], .int .i64 (headE l)]) ∧ Below w.heap.size w w' :=
 rnew_bad A c l (headOf l) (headE l) (beq_eq_false_iff_ne.mpr he) w fun w1 hbw => rparse_at A c l hb w1 (Kd.C_below hr hbw) hc
end Go.Proofs.Ytmjjojbedllmgaa.Hand
end
section
namespace Go.Proofs.Ytmjjojbedllmgaa.Hand
open Go.RowKit
open Go.Proofs.Ytmjjojbedllmgaa.G
open Go.Proofs.YtmjjojbedllmgaaW.PrintWords Go.Proofs.YtmjjojbedllmgaaW.PrintLast Go.Proofs.YtmjjojbedllmgaaW.PrintMore
theorem blk_range {w : World} {b : Nat} {t : TypeId} {l : List Value} (h : w.heap[b]? = some (.cells l.toArray t (0, 0))) : w.rangeAt b 0 l := fun j x hx => by
 rw [blk_cell h (0 + j), Nat.zero_add]
 simpa using hx
theorem rz_read (ad : Int) : Puts 14 #[.agg #[.bool false, .string ⟨#[]⟩, .int .u8 0, .int .i64 0, .bool false, .bool false, .bool false, .int .i64 0, .int .i64 0, .int .u8 0, .int .u16 0, .slice none 0 0, .slice none 0 0, .int .i64 0, .bool false, .int .u8 0, .int .u8 0, .int .u8 0, .bool false, .int .u8 0, .int .u8 0, .int .u8 0, .int .u16 0, .bool false, .bool false, .int .u8 0, .int .u8 0, .int .u8 0, .int .u16 0, .bool false, .bool false, .int .u8 0], .int .u16 ad] (.int .u8 255) := by
 intro w
 go_enter Try.func14, Try.ntmps14
 go_wp2
 go_returns
 exact ⟨rfl, by go_grown⟩
end Go.Proofs.Ytmjjojbedllmgaa.Hand
end
section
namespace Go.Proofs.Ytmjjojbedllmgaa.Hand
open Go.RowKit
open Go.Proofs.Ytmjjojbedllmgaa.G
open Go.Proofs.YtmjjojbedllmgaaW.PrintWords Go.Proofs.YtmjjojbedllmgaaW.PrintLast Go.Proofs.YtmjjojbedllmgaaW.PrintMore
theorem bytes_cells (s : ByteArray) : Lib.byteCells s.data.toList = (bytesOf s).map (Value.int .u8) := by
 simp [Lib.byteCells, bytesOf]
theorem wpList_append_run {P : Program} {w w' : World} {ops : Array Oper} {rest : List Oper} {o : Oper} {a : Act} {Q : Exit → Act → World → Prop} (hgd : o.guard = none) (s x : Operand) (t : TypeId)
  (ho : o.op = .call { callee := .builtin .append, args := #[s, x], argTypes := #[t, t] }) (sv xv r : Value) (hs : a.eval s = sv) (hx : a.eval x = xv)
  (hrun : ∀ ty : TypeId, (Builtin.append_ #[t, t] ty #[sv, xv]).run P w = .ok r w') (h : wpList P ops Q rest (a.put o.dst r) w') : wpList P ops Q (o :: rest) a w := by
 refine wpList_plain hgd fun K hK => ?_
 have q := hrun o.type
 unfold Oper.wp
 simp [execOp, ho, resolve, invoke, builtin, hs, hx, q, Result.andThen]
 exact hK _ _ h
theorem makeRow (w : World) (n : Nat) (hn : (n : Int) ≤ 8388272) :
  ∃ w', (Instr.makeSlice 22 (.int .i64 336) (.int .i64 (336 + (n : Int)))).run Try.prog w = .ok (.slice (some ⟨w.heap.size, 0, none⟩) 336 (336 + n)) w' ∧ RowL w' w.heap.size (List.replicate (336 + n) 0) ∧ (∀ (k : Nat) (cs : Array Value) (t : TypeId), w.heap[k]? = some (.cells cs t (0, 0)) → w'.heap[k]? = some (.cells cs t (0, 0))) ∧ (∀ w0 : World, Below w0.heap.size w0 w → Below w0.heap.size w0 w') := by
 obtain ⟨i, hi, hz0, hz1, hz2⟩ := info_parts info5
 have q := run_make (P := Try.prog) w 22 5 i (.int .u8 0) Try.underlying22 hi hz0 .i64 .i64 336 (336 + (n : Int)) (by omega) (by omega) (by rw [hz2]; omega) (by omega)
 rw [show ((336 : Int)).toNat = 336 from rfl, show (336 + (n : Int)).toNat = 336 + n by omega, hz1, Nat.mul_one] at q
 refine ⟨_, q, ?_, fun k cs t hk => blk_alloc hk _, fun w0 hb => below_alloc hb _⟩
 ·have e : madeCells (Value.int .u8 0).cells (336 + n) = ((List.replicate (336 + n) (0 : Int)).map (Value.int .u8)).toArray := by
   apply Array.toList_inj.mp
   rw [show (Value.int .u8 0).cells = #[Value.int .u8 0] from rfl, toList_madeCells_one]
   simp
  rw [e]
  exact heap_alloc_new w _
theorem RowL.copyStr {w : World} {g : Nat} {L : List Int} (h : RowL w g L) (o n : Nat) (s : ByteArray) (hle : s.size ≤ n) (hfit : o + s.size ≤ L.length) :
  ∃ w', (∀ (cap : Nat) (ty : TypeId), (Builtin.copy_ #[22, 9] ty #[.slice (some ⟨g, o, none⟩) n cap, .string s]).run Try.prog w = .ok (.int .i64 s.size) w') ∧ RowL w' g (splice L o (bytesOf s)) ∧ (∀ k : Nat, k ≠ g → w'.heap[k]? = w.heap[k]?) ∧ (∀ (B : Nat) (w0 : World), B ≤ g → Below B w0 w → Below B w0 w') := by
 have q := fun (cap : Nat) (ty : TypeId) => Lib.run_copy_row_string (P := Try.prog) w 22 9 ty 5 g o n cap s (L.map (Value.int .u8)).toArray 5 Try.underlying22 (by kernel_rfl) h hle (by simpa using hfit)
 refine ⟨_, q, ?_, fun k hk => setRow_other w g k _ hk, fun B w0 hB hb => below_setRow hb hB _⟩
 refine (setRow_heap w g _ _ 5 (0, 0) h).trans ?_
 rw [bytes_cells]
 simp [splice, bytesOf_length, List.map_take, List.map_drop]
theorem RowL.append {w : World} {g : Nat} {L : List Int} (h : RowL w g L) (n cap : Nat) (A : Option Addr) (c : Nat) (l : List Int) (hr : Kd.C (Kd.int .u8) w A l.length l) (hcap : n + l.length ≤ cap) (hfit : n + l.length ≤ L.length) :
  ∃ w', (∀ ty : TypeId, (Builtin.append_ #[22, 22] ty #[.slice (some ⟨g, 0, none⟩) n cap, .slice A l.length c]).run Try.prog w = .ok (.slice (some ⟨g, 0, none⟩) (n + l.length) cap) w') ∧ RowL w' g (splice L n l) ∧ (∀ k : Nat, k ≠ g → w'.heap[k]? = w.heap[k]?) ∧ (∀ (B : Nat) (w0 : World), B ≤ g → Below B w0 w → Below B w0 w') := by
 have hi := info5
 obtain ⟨i, hi, hz0, hz1, hz2⟩ := info_parts hi
 by_cases h0 : l.length = 0
 ·have e : l = [] := List.eq_nil_of_length_eq_zero h0
  subst e
  refine ⟨w, fun ty => ?_, by simpa [splice] using h, fun _ _ => rfl, fun _ _ _ hb => hb⟩
  have hn : n ≤ cap := by simpa using hcap
  cases A <;> simp [Builtin.append_, run_underlying Try.underlying22, sizeOf, typeInfo, hi, Builtin.lenOf, Builtin.firstCells, hn, storeCells, loadCells, loadCellsFrom]
 ·obtain ⟨ad, rfl, _⟩ := Kd.at_int hr 0 (by omega) (by omega)
  have hnews : ∀ j u, (l.map (Value.int .u8))[j]? = some u → w.cell? (ad.add j) = some u := by
   intro j u hj
   obtain ⟨hl, hp⟩ := List.getElem?_eq_some_iff.1 hj
   have hl' : j < l.length := by simpa using hl
   obtain ⟨ad', e, hc⟩ := Kd.at_int hr (j : Int) (by omega) (by omega)
   cases e
   rw [Int.toNat_natCast] at hc
   rw [hc, ← hp]
   simp [rd, hl']
  have q := fun ty : TypeId => run_append_room (P := Try.prog) w 22 ty 5 i Try.underlying22 hi g n cap (L.map (Value.int .u8)).toArray h ad l.length c (l.map (Value.int .u8)) (by rw [hz1]; simp) hnews (by intro u hu; simp at hu; obtain ⟨x, _, rfl⟩ := hu; rfl) hcap (by rw [hz1]; simpa using hfit)
  refine ⟨_, q, ?_, fun k hk => setRow_other w g k _ hk, fun B w0 hB hb => below_setRow hb hB _⟩
  refine (setRow_heap w g _ _ 5 (0, 0) h).trans ?_
  rw [hz1]
  simp [splice, List.map_take, List.map_drop]
end Go.Proofs.Ytmjjojbedllmgaa.Hand
end
section
namespace Go.Proofs.Ytmjjojbedllmgaa.G
open Go.RowKit Go.Proofs.YtmjjojbedllmgaaW.PrintWords Go.Proofs.YtmjjojbedllmgaaW.PrintLast Go.Proofs.YtmjjojbedllmgaaW.PrintMore
def header_Whole.l0 : Nat → Int → List Int → Int → Int → Option (Int)
 | 0, _, _, _, _ => none
 | k + 1, x3, x6, x7, x8 => if x8 < x7 then (if 0 ≤ x8 then (if x8 < (x6.length : Int) then (if x8 = 334 then (header_Whole.l0 k x3 x6 x7 (wrap64 (x8 + 1))) else (if x8 = 335 then (header_Whole.l0 k x3 x6 x7 (wrap64 (x8 + 1))) else (header_Whole.l0 k (IntKind.u16.wrap (x3 + (IntKind.u16.wrap (rd x6 x8)))) x6 x7 (wrap64 (x8 + 1))))) else (none)) else (none)) else (some x3)
def header_Whole.f (k : Nat) (l0 : List Int) : Option (Int) := header_Whole.l0 k 0 l0 (l0.length : Int) 0
theorem header_Whole.calls (k : Nat) (A0 : Option Addr) (c0 : Nat) (l0 : List Int) (r : Int) (w : World) (hr0 : Kd.C (Kd.int .u8) w A0 l0.length l0) (hc0 : l0.length ≤ c0) (h : header_Whole.f k l0 = some r) :
  Calls Try.prog 78 #[.slice A0 l0.length c0] w fun e w' => e = .returned (.int .u16 r) ∧ Drawn0 w w' := by
 have HR0 := Aside0.mk hr0
 have HC0 := Aside0.mk hc0
 clear hr0 hc0
 have H : (header_Whole.l0 k 0 l0 (l0.length : Int) 0) = some r := h
 clear h
 have H' := Aside0.mk H
 clear H
 go_enter Try.func78, Try.ntmps78
 go_wp2
 go_loopg [3, 8] k (fun kq v3 v8 w' => ∃ (x3_1 : Int) (x8_1 : Int), v3 = .int .u16 x3_1 ∧ v8 = .int .i64 x8_1 ∧ Aside0 (header_Whole.l0 kq x3_1 l0 (l0.length : Int) x8_1 = some r) ∧ Aside0 (kq ≤ k) ∧ Drawn0 w w')
 case atStart => exact ⟨(0), (0), (by first | rfl | (simp; done) | (simp [*]; done)), (by first | rfl | (simp; done) | (simp [*]; done)), H', ⟨Nat.le_refl _⟩, by repeat (first | exact Drawn0.refl _ | apply Drawn0.step)⟩
 case round =>
  clear H'
  obtain ⟨x3_1, x8_1, rfl, rfl, HA, HK1, ⟨m1, rfl⟩⟩ := hrel
  cases gk with
  | zero => exact absurd HA.out (by simp [header_Whole.l0])
  | succ k1 =>
   have H := HA.out
   clear HA
   simp only [header_Whole.l0] at H
   by_cases c2 : x8_1 < (l0.length : Int)
   ·rw [if_pos c2] at H
    have c2b0 : decide (x8_1 < (l0.length : Int)) = true := decide_eq_true c2
    clear c2
    by_cases c3 : 0 ≤ x8_1
    ·rw [if_pos c3] at H
     have c3b0 : decide (0 ≤ x8_1) = true := decide_eq_true c3
     clear c3
     by_cases c4 : x8_1 < (l0.length : Int)
     ·rw [if_pos c4] at H
      have c4b0 : decide (x8_1 < (l0.length : Int)) = true := decide_eq_true c4
      clear c4
      by_cases c5 : x8_1 = 334
      ·rw [if_pos c5] at H
       have c5b0 : (x8_1 == 334) = true := beq_iff_eq.mpr c5
       have c5b1 : (x8_1 != 334) = false := bne_eq_false_iff_eq.mpr c5
       clear c5
       have H' := Aside0.mk H
       clear H
       have p120 : 0 ≤ (x8_1 : Int) := of_decide_eq_true (by first | (with_reducible assumption) | assumption)
       have q120 : x8_1 < (l0.length : Int) := of_decide_eq_true (by first | (with_reducible assumption) | assumption)
       obtain ⟨ad120, e120, hx120_0⟩ := Kd.at_int HR0.out x8_1 p120 q120
       cases e120
       replace p120 := eq_true p120
       replace q120 := eq_true q120
       go_wp2
       go_roundg k1
       case measure => have := HK1.out; omega
       case rel => exact ⟨(x3_1), (wrap64 (x8_1 + 1)), (by first | rfl | (simp; done) | (simp [*]; done)), (by first | rfl | (simp; done) | (simp [*]; done)), H', ⟨by have := HK1.out; omega⟩, by repeat (first | exact Drawn0.refl _ | apply Drawn0.step)⟩
      ·rw [if_neg c5] at H
       have c5b0 : (x8_1 == 334) = false := beq_eq_false_iff_ne.mpr c5
       have c5b1 : (x8_1 != 334) = true := bne_iff_ne.mpr c5
       by_cases c6 : x8_1 = 335
       ·rw [if_pos c6] at H
        have c6b0 : (x8_1 == 335) = true := beq_iff_eq.mpr c6
        have c6b1 : (x8_1 != 335) = false := bne_eq_false_iff_eq.mpr c6
        clear c6
        have H' := Aside0.mk H
        clear H
        have p120 : 0 ≤ (x8_1 : Int) := of_decide_eq_true (by first | (with_reducible assumption) | assumption)
        have q120 : x8_1 < (l0.length : Int) := of_decide_eq_true (by first | (with_reducible assumption) | assumption)
        obtain ⟨ad120, e120, hx120_0⟩ := Kd.at_int HR0.out x8_1 p120 q120
        cases e120
        replace p120 := eq_true p120
        replace q120 := eq_true q120
        go_wp2
        go_roundg k1
        case measure => have := HK1.out; omega
        case rel => exact ⟨(x3_1), (wrap64 (x8_1 + 1)), (by first | rfl | (simp; done) | (simp [*]; done)), (by first | rfl | (simp; done) | (simp [*]; done)), H', ⟨by have := HK1.out; omega⟩, by repeat (first | exact Drawn0.refl _ | apply Drawn0.step)⟩
       ·rw [if_neg c6] at H
        have c6b0 : (x8_1 == 335) = false := beq_eq_false_iff_ne.mpr c6
        have c6b1 : (x8_1 != 335) = true := bne_iff_ne.mpr c6
        have H' := Aside0.mk H
        clear H
        have p120 : 0 ≤ (x8_1 : Int) := of_decide_eq_true (by first | (with_reducible assumption) | assumption)
        have q120 : x8_1 < (l0.length : Int) := of_decide_eq_true (by first | (with_reducible assumption) | assumption)
        obtain ⟨ad120, e120, hx120_0⟩ := Kd.at_int HR0.out x8_1 p120 q120
        cases e120
        replace p120 := eq_true p120
        replace q120 := eq_true q120
        go_wp2
        go_roundg k1
        case measure => have := HK1.out; omega
        case rel => exact ⟨(IntKind.u16.wrap (x3_1 + (IntKind.u16.wrap (rd l0 x8_1)))), (wrap64 (x8_1 + 1)), (by first | rfl | (simp; done) | (simp [*]; done)), (by first | rfl | (simp; done) | (simp [*]; done)), H', ⟨by have := HK1.out; omega⟩, by repeat (first | exact Drawn0.refl _ | apply Drawn0.step)⟩
     ·rw [if_neg c4] at H
      exact absurd H (by simp)
    ·rw [if_neg c3] at H
     exact absurd H (by simp)
   ·rw [if_neg c2] at H
    have c2b0 : decide (x8_1 < (l0.length : Int)) = false := decide_eq_false c2
    clear c2
    obtain rfl := Option.some.inj H
    go_wp2
    go_ret
    exact ⟨by first | rfl | (simp; done) | (simp [*]; done), by repeat (first | exact Drawn0.refl _ | apply Drawn0.step)⟩
end Go.Proofs.Ytmjjojbedllmgaa.G
end
section
namespace Go.Proofs.Ytmjjojbedllmgaa.Hand
open Go.RowKit
open Go.Proofs.Ytmjjojbedllmgaa.G
open Go.Proofs.YtmjjojbedllmgaaW.PrintWords Go.Proofs.YtmjjojbedllmgaaW.PrintLast Go.Proofs.YtmjjojbedllmgaaW.PrintMore
theorem hmake_long (s : ByteArray) (kd rom ram : Int) (A : Option Addr) (c : Nat) (l : List Int) (w : World) (hr : Kd.C (Kd.int .u8) w A l.length l) (hc : l.length ≤ c) (hs : ¬ (s.size : Int) ≤ 16) :
  Calls Try.prog 52 #[.string s, .int .u8 kd, .int .u8 rom, .int .u8 ram, .slice A l.length c] w fun e' w' => e' = .returned (.tuple #[.slice none 0 0, .int .i64 1]) ∧ Below w.heap.size w w' := by
 have hmf : ∀ (fn : Fn) (first cap : Array Value) (w : World), (Instr.makeFunc fn first cap).run Try.prog w = .ok (.func fn first cap) w := fun _ _ _ _ => rfl
 have HR := Aside0.mk hr
 clear hr
 go_enter_defers Try.func52, Try.ntmps52
 go_wp2_with fail
 have z1 := heap_alloc_new w (.cells #[.int .i64 0] 26)
 have z2 := below_alloc (Below.refl w.heap.size w) (.cells #[.int .i64 0] 26)
 generalize w.alloc (.cells #[.int .i64 0] 26) = W0 at z1 z2 ⊢
 refine (need_no 1 _).mono ?_
 rintro e' w' ⟨rfl, hw⟩
 replace hw := hw.symm
 subst hw
 refine leaves_cons (f := 77) (args := #[.pointer (some ⟨w.heap.size, 0, none⟩)]) (by simp) (by simp [go_sem]) ?_
 refine (make_panicking ⟨w.heap.size, 0, none⟩ 0 1 [] _ ((blk_cell (z1) 0).trans rfl) (blk_frozen (z1) 0)).mono ?_
 rintro e u' w'' ⟨rfl, rfl, rfl⟩
 have m1 : ((W0).setCell ⟨w.heap.size, 0, none⟩ (.int .i64 1)).heap[w.heap.size]? = some (.cells #[.int .i64 1] 26 (0, 0)) := blk_put (z1) 0 _ rfl
 have m2 : Below w.heap.size w ((W0).setCell ⟨w.heap.size, 0, none⟩ (.int .i64 1)) := below_set (z2) (Nat.le_refl _)
 generalize ((W0).setCell ⟨w.heap.size, 0, none⟩ (.int .i64 1)) = Y at m1 m2 ⊢
 have v0 : Y.cell? ⟨w.heap.size, 0, none⟩ = some (.int .i64 1) := (blk_cell m1 0).trans rfl
 simp [Leaves, settle, results, Try.results52, go_sem, v0, m2]
theorem hmake_sign (s : ByteArray) (kd rom ram : Int) (A : Option Addr) (c : Nat) (l : List Int) (w : World) (hr : Kd.C (Kd.int .u8) w A l.length l) (hc : l.length ≤ c) (hs : (s.size : Int) ≤ 16) (j0 : Nat) (hj0 : (j0 : Int) < s.size) (hpr : ∀ i : Nat, i < j0 → prb (bt s (i : Int)) = true) (hno : prb (bt s (j0 : Int)) = false) :
  Calls Try.prog 52 #[.string s, .int .u8 kd, .int .u8 rom, .int .u8 ram, .slice A l.length c] w fun e' w' => e' = .returned (.tuple #[.slice none 0 0, .int .i64 1]) ∧ Below w.heap.size w w' := by
 have hmf : ∀ (fn : Fn) (first cap : Array Value) (w : World), (Instr.makeFunc fn first cap).run Try.prog w = .ok (.func fn first cap) w := fun _ _ _ _ => rfl
 have HR := Aside0.mk hr
 clear hr
 go_enter_defers Try.func52, Try.ntmps52
 go_wp2_with fail
 have z1 := heap_alloc_new w (.cells #[.int .i64 0] 26)
 have z2 := below_alloc (Below.refl w.heap.size w) (.cells #[.int .i64 0] 26)
 generalize w.alloc (.cells #[.int .i64 0] 26) = W0 at z1 z2 ⊢
 refine (need_ok 1 _).mono ?_
 rintro e' w' ⟨rfl, hw⟩
 replace hw := hw.symm
 subst hw
 go_wp2_with fail
 go_loopw [24] (fun i w' => ∃ (j : Nat), i = .int .i64 j ∧ Aside0 (j ≤ j0 ∧ w'.heap[w.heap.size]? = some (.cells #[.int .i64 0] 26 (0, 0)) ∧ Below w.heap.size w w')) (fun i _ => 20 - (intOf i).toNat)
 case atStart => exact ⟨0, rfl, Aside0.mk ⟨by omega, z1, z2⟩⟩
 case round =>
  obtain ⟨j, rfl, HA⟩ := hrel
  obtain ⟨hj, z1, z2⟩ := HA.out
  clear HA
  by_cases hjJ : j = j0
  ·have hpr' := hpr
   clear hpr
   have h16 : (j : Int) ≤ 16 := by omega
   subst hjJ
   have p9 : 0 ≤ (j : Int) := by omega
   have q9 : (j : Int) < (s.size : Int) := by omega
   replace p9 := eq_true p9
   replace q9 := eq_true q9
   have hjs : j < s.size := by omega
   have hbt : bt s (j : Int) = ((s[j]'hjs).toNat : Int) := by simp [bt, hjs]
   rw [hbt] at hno
   go_wp2_with fail
   (with_reducible refine (header_printable.calls _ _ _ (prb_calls _)).mono ?_)
   rintro e' w' ⟨rfl, ⟨nd, rfl⟩⟩
   rw [hno]
   go_wp2_with fail
   refine (need_no 1 _).mono ?_
   rintro e' w' ⟨rfl, rfl⟩
   have D1 := blk_drewN z1 nd
   have D2 := pw_below_drewN z2 nd
   generalize wr.drewN nd = W1 at D1 D2 ⊢
   refine leaves_cons (f := 77) (args := #[.pointer (some ⟨w.heap.size, 0, none⟩)]) (by simp) (by simp [go_sem]) ?_
   refine (make_panicking ⟨w.heap.size, 0, none⟩ 0 1 [] _ ((blk_cell (D1) 0).trans rfl) (blk_frozen (D1) 0)).mono ?_
   rintro e u' w'' ⟨rfl, rfl, rfl⟩
   have m1 : ((W1).setCell ⟨w.heap.size, 0, none⟩ (.int .i64 1)).heap[w.heap.size]? = some (.cells #[.int .i64 1] 26 (0, 0)) := blk_put (D1) 0 _ rfl
   have m2 : Below w.heap.size w ((W1).setCell ⟨w.heap.size, 0, none⟩ (.int .i64 1)) := below_set (D2) (Nat.le_refl _)
   generalize ((W1).setCell ⟨w.heap.size, 0, none⟩ (.int .i64 1)) = Y at m1 m2 ⊢
   have v0 : Y.cell? ⟨w.heap.size, 0, none⟩ = some (.int .i64 1) := (blk_cell m1 0).trans rfl
   simp [Leaves, settle, results, Try.results52, go_sem, v0, m2]

  have hb := hpr j (by omega)
  have p9 : 0 ≤ (j : Int) := by omega
  have q9 : (j : Int) < (s.size : Int) := by omega
  have hx9 := bt_at s (j : Int)
  have q9' := q9
  replace p9 := eq_true p9
  replace q9 := eq_true q9
  have hjs : j < s.size := by omega
  have hbt : bt s (j : Int) = ((s[j]'hjs).toNat : Int) := by simp [bt, hjs]
  rw [hbt] at hb
  clear hx9
  go_wp2_with fail
  (with_reducible refine (header_printable.calls _ _ _ (prb_calls _)).mono ?_)
  rintro e' w' ⟨rfl, ⟨nd, rfl⟩⟩
  rw [hb]
  go_wp2_with fail
  refine (need_ok 1 _).mono ?_
  rintro e' w' ⟨rfl, rfl⟩
  go_wp2_with fail
  exact ⟨⟨j + 1, by simp, Aside0.mk ⟨by omega, blk_drewN z1 nd, pw_below_drewN z2 nd⟩⟩, by simp [intOf]; omega⟩
theorem hmake_kind (s : ByteArray) (kd rom ram : Int) (A : Option Addr) (c : Nat) (l : List Int) (w : World) (hr : Kd.C (Kd.int .u8) w A l.length l) (hc : l.length ≤ c) (hs : (s.size : Int) ≤ 16) (hpr : ∀ i : Nat, i < s.size → prb (bt s (i : Int)) = true) (hk : 0 ≤ kd ∧ kd ≤ 255) (hok : (wareT kd).2.2.2.2 = false) :
  Calls Try.prog 52 #[.string s, .int .u8 kd, .int .u8 rom, .int .u8 ram, .slice A l.length c] w fun e' w' => e' = .returned (.tuple #[.slice none 0 0, .int .i64 4]) ∧ Below w.heap.size w w' := by
 have hmf : ∀ (fn : Fn) (first cap : Array Value) (w : World), (Instr.makeFunc fn first cap).run Try.prog w = .ok (.func fn first cap) w := fun _ _ _ _ => rfl
 have HR := Aside0.mk hr
 clear hr
 go_enter_defers Try.func52, Try.ntmps52
 go_wp2_with fail
 have z1 := heap_alloc_new w (.cells #[.int .i64 0] 26)
 have z2 := below_alloc (Below.refl w.heap.size w) (.cells #[.int .i64 0] 26)
 generalize w.alloc (.cells #[.int .i64 0] 26) = W0 at z1 z2 ⊢
 refine (need_ok 1 _).mono ?_
 rintro e' w' ⟨rfl, hw⟩
 replace hw := hw.symm
 subst hw
 go_wp2_with fail
 go_loopw [24] (fun i w' => ∃ (j : Nat), i = .int .i64 j ∧ Aside0 (j ≤ s.size ∧ w'.heap[w.heap.size]? = some (.cells #[.int .i64 0] 26 (0, 0)) ∧ Below w.heap.size w w')) (fun i _ => 20 - (intOf i).toNat)
 case atStart => exact ⟨0, rfl, Aside0.mk ⟨by omega, z1, z2⟩⟩
 case round =>
  obtain ⟨j, rfl, HA⟩ := hrel
  obtain ⟨hj, z1, z2⟩ := HA.out
  clear HA
  by_cases hjJ : j = s.size
  ·have hpr' := hpr
   clear hpr
   have h16 : (j : Int) ≤ 16 := by omega
   have hge : ¬ (j : Int) < (s.size : Int) := by omega
   go_wp2_with fail
   refine (header_ware.calls kd hk _).mono ?_
   rintro e' w1 ⟨rfl, hb⟩
   have B1 := blk_below z1 hb
   have B2 := Below.trans z2 (hb.mono z2.size)
   rw [hok]
   go_wp2_with fail
   refine (need_no 4 _).mono ?_
   rintro e' w' ⟨rfl, rfl⟩
   have D1 := blk_alloc B1 (.cells #[.string ⟨#[]⟩, .int .u8 0, .int .i64 (wareT kd).1, .bool (wareT kd).2.1, .bool (wareT kd).2.2.1, .bool (wareT kd).2.2.2.1, .int .i64 0, .int .i64 0, .int .u8 0, .int .u16 0] 30)
   have D2 := below_alloc B2 (.cells #[.string ⟨#[]⟩, .int .u8 0, .int .i64 (wareT kd).1, .bool (wareT kd).2.1, .bool (wareT kd).2.2.1, .bool (wareT kd).2.2.2.1, .int .i64 0, .int .i64 0, .int .u8 0, .int .u16 0] 30)
   generalize w1.alloc (.cells #[.string ⟨#[]⟩, .int .u8 0, .int .i64 (wareT kd).1, .bool (wareT kd).2.1, .bool (wareT kd).2.2.1, .bool (wareT kd).2.2.2.1, .int .i64 0, .int .i64 0, .int .u8 0, .int .u16 0] 30) = W1 at D1 D2 ⊢
   clear z1 z2 B1 B2 hb
   refine leaves_cons (f := 77) (args := #[.pointer (some ⟨w.heap.size, 0, none⟩)]) (by simp) (by simp [go_sem]) ?_
   refine (make_panicking ⟨w.heap.size, 0, none⟩ 0 4 [] _ ((blk_cell (D1) 0).trans rfl) (blk_frozen (D1) 0)).mono ?_
   rintro e u' w'' ⟨rfl, rfl, rfl⟩
   have m1 : ((W1).setCell ⟨w.heap.size, 0, none⟩ (.int .i64 4)).heap[w.heap.size]? = some (.cells #[.int .i64 4] 26 (0, 0)) := blk_put (D1) 0 _ rfl
   have m2 : Below w.heap.size w ((W1).setCell ⟨w.heap.size, 0, none⟩ (.int .i64 4)) := below_set (D2) (Nat.le_refl _)
   generalize ((W1).setCell ⟨w.heap.size, 0, none⟩ (.int .i64 4)) = Y at m1 m2 ⊢
   have v0 : Y.cell? ⟨w.heap.size, 0, none⟩ = some (.int .i64 4) := (blk_cell m1 0).trans rfl
   simp [Leaves, settle, results, Try.results52, go_sem, v0, m2]

  have hb := hpr j (by omega)
  have p9 : 0 ≤ (j : Int) := by omega
  have q9 : (j : Int) < (s.size : Int) := by omega
  have hx9 := bt_at s (j : Int)
  have q9' := q9
  replace p9 := eq_true p9
  replace q9 := eq_true q9
  have hjs : j < s.size := by omega
  have hbt : bt s (j : Int) = ((s[j]'hjs).toNat : Int) := by simp [bt, hjs]
  rw [hbt] at hb
  clear hx9
  go_wp2_with fail
  (with_reducible refine (header_printable.calls _ _ _ (prb_calls _)).mono ?_)
  rintro e' w' ⟨rfl, ⟨nd, rfl⟩⟩
  rw [hb]
  go_wp2_with fail
  refine (need_ok 1 _).mono ?_
  rintro e' w' ⟨rfl, rfl⟩
  go_wp2_with fail
  exact ⟨⟨j + 1, by simp, Aside0.mk ⟨by omega, blk_drewN z1 nd, pw_below_drewN z2 nd⟩⟩, by simp [intOf]; omega⟩
theorem hmake_size_a (s : ByteArray) (kd rom ram : Int) (A : Option Addr) (c : Nat) (l : List Int) (w : World) (hr : Kd.C (Kd.int .u8) w A l.length l) (hc : l.length ≤ c) (hs : (s.size : Int) ≤ 16) (hpr : ∀ i : Nat, i < s.size → prb (bt s (i : Int)) = true) (hk : 0 ≤ kd ∧ kd ≤ 255) (hok : (wareT kd).2.2.2.2 = true) (h8 : decide (rom ≤ 8) = false) :
  Calls Try.prog 52 #[.string s, .int .u8 kd, .int .u8 rom, .int .u8 ram, .slice A l.length c] w fun e' w' => e' = .returned (.tuple #[.slice none 0 0, .int .i64 5]) ∧ Below w.heap.size w w' := by
 have hmf : ∀ (fn : Fn) (first cap : Array Value) (w : World), (Instr.makeFunc fn first cap).run Try.prog w = .ok (.func fn first cap) w := fun _ _ _ _ => rfl
 have HR := Aside0.mk hr
 clear hr
 go_enter_defers Try.func52, Try.ntmps52
 go_wp2_with fail
 have z1 := heap_alloc_new w (.cells #[.int .i64 0] 26)
 have z2 := below_alloc (Below.refl w.heap.size w) (.cells #[.int .i64 0] 26)
 generalize w.alloc (.cells #[.int .i64 0] 26) = W0 at z1 z2 ⊢
 refine (need_ok 1 _).mono ?_
 rintro e' w' ⟨rfl, hw⟩
 replace hw := hw.symm
 subst hw
 go_wp2_with fail
 go_loopw [24] (fun i w' => ∃ (j : Nat), i = .int .i64 j ∧ Aside0 (j ≤ s.size ∧ w'.heap[w.heap.size]? = some (.cells #[.int .i64 0] 26 (0, 0)) ∧ Below w.heap.size w w')) (fun i _ => 20 - (intOf i).toNat)
 case atStart => exact ⟨0, rfl, Aside0.mk ⟨by omega, z1, z2⟩⟩
 case round =>
  obtain ⟨j, rfl, HA⟩ := hrel
  obtain ⟨hj, z1, z2⟩ := HA.out
  clear HA
  by_cases hjJ : j = s.size
  ·have hpr' := hpr
   clear hpr
   have h16 : (j : Int) ≤ 16 := by omega
   have hge : ¬ (j : Int) < (s.size : Int) := by omega
   go_wp2_with fail
   refine (header_ware.calls kd hk _).mono ?_
   rintro e' w1 ⟨rfl, hb⟩
   have B1 := blk_below z1 hb
   have B2 := Below.trans z2 (hb.mono z2.size)
   rw [hok]
   go_wp2_with fail
   refine (need_ok 4 _).mono ?_
   rintro e' w' ⟨rfl, rfl⟩
   have D1 := blk_alloc B1 (.cells #[.string ⟨#[]⟩, .int .u8 kd, .int .i64 (wareT kd).1, .bool (wareT kd).2.1, .bool (wareT kd).2.2.1, .bool (wareT kd).2.2.2.1, .int .i64 0, .int .i64 0, .int .u8 0, .int .u16 0] 30)
   have D2 := below_alloc B2 (.cells #[.string ⟨#[]⟩, .int .u8 kd, .int .i64 (wareT kd).1, .bool (wareT kd).2.1, .bool (wareT kd).2.2.1, .bool (wareT kd).2.2.2.1, .int .i64 0, .int .i64 0, .int .u8 0, .int .u16 0] 30)
   generalize w1.alloc (.cells #[.string ⟨#[]⟩, .int .u8 kd, .int .i64 (wareT kd).1, .bool (wareT kd).2.1, .bool (wareT kd).2.2.1, .bool (wareT kd).2.2.2.1, .int .i64 0, .int .i64 0, .int .u8 0, .int .u16 0] 30) = W1 at D1 D2 ⊢
   clear z1 z2 B1 B2 hb
   go_wp2_with fail
   refine (need_no 5 _).mono ?_
   rintro e' w' ⟨rfl, hw⟩
   replace hw := hw.symm
   subst hw
   refine leaves_cons (f := 77) (args := #[.pointer (some ⟨w.heap.size, 0, none⟩)]) (by simp) (by simp [go_sem]) ?_
   refine (make_panicking ⟨w.heap.size, 0, none⟩ 0 5 [] _ ((blk_cell (D1) 0).trans rfl) (blk_frozen (D1) 0)).mono ?_
   rintro e u' w'' ⟨rfl, rfl, rfl⟩
   have m1 : ((W1).setCell ⟨w.heap.size, 0, none⟩ (.int .i64 5)).heap[w.heap.size]? = some (.cells #[.int .i64 5] 26 (0, 0)) := blk_put (D1) 0 _ rfl
   have m2 : Below w.heap.size w ((W1).setCell ⟨w.heap.size, 0, none⟩ (.int .i64 5)) := below_set (D2) (Nat.le_refl _)
   generalize ((W1).setCell ⟨w.heap.size, 0, none⟩ (.int .i64 5)) = Y at m1 m2 ⊢
   have v0 : Y.cell? ⟨w.heap.size, 0, none⟩ = some (.int .i64 5) := (blk_cell m1 0).trans rfl
   simp [Leaves, settle, results, Try.results52, go_sem, v0, m2]

  have hb := hpr j (by omega)
  have p9 : 0 ≤ (j : Int) := by omega
  have q9 : (j : Int) < (s.size : Int) := by omega
  have hx9 := bt_at s (j : Int)
  have q9' := q9
  replace p9 := eq_true p9
  replace q9 := eq_true q9
  have hjs : j < s.size := by omega
  have hbt : bt s (j : Int) = ((s[j]'hjs).toNat : Int) := by simp [bt, hjs]
  rw [hbt] at hb
  clear hx9
  go_wp2_with fail
  (with_reducible refine (header_printable.calls _ _ _ (prb_calls _)).mono ?_)
  rintro e' w' ⟨rfl, ⟨nd, rfl⟩⟩
  rw [hb]
  go_wp2_with fail
  refine (need_ok 1 _).mono ?_
  rintro e' w' ⟨rfl, rfl⟩
  go_wp2_with fail
  exact ⟨⟨j + 1, by simp, Aside0.mk ⟨by omega, blk_drewN z1 nd, pw_below_drewN z2 nd⟩⟩, by simp [intOf]; omega⟩
theorem hmake_size_b (s : ByteArray) (kd rom ram : Int) (A : Option Addr) (c : Nat) (l : List Int) (w : World) (hr : Kd.C (Kd.int .u8) w A l.length l) (hc : l.length ≤ c) (hs : (s.size : Int) ≤ 16) (hpr : ∀ i : Nat, i < s.size → prb (bt s (i : Int)) = true) (hk : 0 ≤ kd ∧ kd ≤ 255) (hok : (wareT kd).2.2.2.2 = true) (h8 : decide (rom ≤ 8) = true) (h5 : decide (ram ≤ 5) = false) :
  Calls Try.prog 52 #[.string s, .int .u8 kd, .int .u8 rom, .int .u8 ram, .slice A l.length c] w fun e' w' => e' = .returned (.tuple #[.slice none 0 0, .int .i64 5]) ∧ Below w.heap.size w w' := by
 have hmf : ∀ (fn : Fn) (first cap : Array Value) (w : World), (Instr.makeFunc fn first cap).run Try.prog w = .ok (.func fn first cap) w := fun _ _ _ _ => rfl
 have HR := Aside0.mk hr
 clear hr
 go_enter_defers Try.func52, Try.ntmps52
 go_wp2_with fail
 have z1 := heap_alloc_new w (.cells #[.int .i64 0] 26)
 have z2 := below_alloc (Below.refl w.heap.size w) (.cells #[.int .i64 0] 26)
 generalize w.alloc (.cells #[.int .i64 0] 26) = W0 at z1 z2 ⊢
 refine (need_ok 1 _).mono ?_
 rintro e' w' ⟨rfl, hw⟩
 replace hw := hw.symm
 subst hw
 go_wp2_with fail
 go_loopw [24] (fun i w' => ∃ (j : Nat), i = .int .i64 j ∧ Aside0 (j ≤ s.size ∧ w'.heap[w.heap.size]? = some (.cells #[.int .i64 0] 26 (0, 0)) ∧ Below w.heap.size w w')) (fun i _ => 20 - (intOf i).toNat)
 case atStart => exact ⟨0, rfl, Aside0.mk ⟨by omega, z1, z2⟩⟩
 case round =>
  obtain ⟨j, rfl, HA⟩ := hrel
  obtain ⟨hj, z1, z2⟩ := HA.out
  clear HA
  by_cases hjJ : j = s.size
  ·have hpr' := hpr
   clear hpr
   have h16 : (j : Int) ≤ 16 := by omega
   have hge : ¬ (j : Int) < (s.size : Int) := by omega
   go_wp2_with fail
   refine (header_ware.calls kd hk _).mono ?_
   rintro e' w1 ⟨rfl, hb⟩
   have B1 := blk_below z1 hb
   have B2 := Below.trans z2 (hb.mono z2.size)
   rw [hok]
   go_wp2_with fail
   refine (need_ok 4 _).mono ?_
   rintro e' w' ⟨rfl, rfl⟩
   have D1 := blk_alloc B1 (.cells #[.string ⟨#[]⟩, .int .u8 kd, .int .i64 (wareT kd).1, .bool (wareT kd).2.1, .bool (wareT kd).2.2.1, .bool (wareT kd).2.2.2.1, .int .i64 0, .int .i64 0, .int .u8 0, .int .u16 0] 30)
   have D2 := below_alloc B2 (.cells #[.string ⟨#[]⟩, .int .u8 kd, .int .i64 (wareT kd).1, .bool (wareT kd).2.1, .bool (wareT kd).2.2.1, .bool (wareT kd).2.2.2.1, .int .i64 0, .int .i64 0, .int .u8 0, .int .u16 0] 30)
   generalize w1.alloc (.cells #[.string ⟨#[]⟩, .int .u8 kd, .int .i64 (wareT kd).1, .bool (wareT kd).2.1, .bool (wareT kd).2.2.1, .bool (wareT kd).2.2.2.1, .int .i64 0, .int .i64 0, .int .u8 0, .int .u16 0] 30) = W1 at D1 D2 ⊢
   clear z1 z2 B1 B2 hb
   go_wp2_with fail
   refine (need_no 5 _).mono ?_
   rintro e' w' ⟨rfl, hw⟩
   replace hw := hw.symm
   subst hw
   refine leaves_cons (f := 77) (args := #[.pointer (some ⟨w.heap.size, 0, none⟩)]) (by simp) (by simp [go_sem]) ?_
   refine (make_panicking ⟨w.heap.size, 0, none⟩ 0 5 [] _ ((blk_cell (D1) 0).trans rfl) (blk_frozen (D1) 0)).mono ?_
   rintro e u' w'' ⟨rfl, rfl, rfl⟩
   have m1 : ((W1).setCell ⟨w.heap.size, 0, none⟩ (.int .i64 5)).heap[w.heap.size]? = some (.cells #[.int .i64 5] 26 (0, 0)) := blk_put (D1) 0 _ rfl
   have m2 : Below w.heap.size w ((W1).setCell ⟨w.heap.size, 0, none⟩ (.int .i64 5)) := below_set (D2) (Nat.le_refl _)
   generalize ((W1).setCell ⟨w.heap.size, 0, none⟩ (.int .i64 5)) = Y at m1 m2 ⊢
   have v0 : Y.cell? ⟨w.heap.size, 0, none⟩ = some (.int .i64 5) := (blk_cell m1 0).trans rfl
   simp [Leaves, settle, results, Try.results52, go_sem, v0, m2]

  have hb := hpr j (by omega)
  have p9 : 0 ≤ (j : Int) := by omega
  have q9 : (j : Int) < (s.size : Int) := by omega
  have hx9 := bt_at s (j : Int)
  have q9' := q9
  replace p9 := eq_true p9
  replace q9 := eq_true q9
  have hjs : j < s.size := by omega
  have hbt : bt s (j : Int) = ((s[j]'hjs).toNat : Int) := by simp [bt, hjs]
  rw [hbt] at hb
  clear hx9
  go_wp2_with fail
  (with_reducible refine (header_printable.calls _ _ _ (prb_calls _)).mono ?_)
  rintro e' w' ⟨rfl, ⟨nd, rfl⟩⟩
  rw [hb]
  go_wp2_with fail
  refine (need_ok 1 _).mono ?_
  rintro e' w' ⟨rfl, rfl⟩
  go_wp2_with fail
  exact ⟨⟨j + 1, by simp, Aside0.mk ⟨by omega, blk_drewN z1 nd, pw_below_drewN z2 nd⟩⟩, by simp [intOf]; omega⟩
theorem hmake_size_c (s : ByteArray) (kd rom ram : Int) (A : Option Addr) (c : Nat) (l : List Int) (w : World) (hr : Kd.C (Kd.int .u8) w A l.length l) (hc : l.length ≤ c) (hs : (s.size : Int) ≤ 16) (hpr : ∀ i : Nat, i < s.size → prb (bt s (i : Int)) = true) (hk : 0 ≤ kd ∧ kd ≤ 255) (hok : (wareT kd).2.2.2.2 = true) (h80 : 0 ≤ rom) (h8 : decide (rom ≤ 8) = true) (h5 : decide (ram ≤ 5) = true) (hm : decide ((l.length : Int) ≤ wrap64 (shl .i64 32768 rom - 336)) = false) :
  Calls Try.prog 52 #[.string s, .int .u8 kd, .int .u8 rom, .int .u8 ram, .slice A l.length c] w fun e' w' => e' = .returned (.tuple #[.slice none 0 0, .int .i64 5]) ∧ Below w.heap.size w w' := by
 have hmf : ∀ (fn : Fn) (first cap : Array Value) (w : World), (Instr.makeFunc fn first cap).run Try.prog w = .ok (.func fn first cap) w := fun _ _ _ _ => rfl
 have HR := Aside0.mk hr
 clear hr
 go_enter_defers Try.func52, Try.ntmps52
 go_wp2_with fail
 have z1 := heap_alloc_new w (.cells #[.int .i64 0] 26)
 have z2 := below_alloc (Below.refl w.heap.size w) (.cells #[.int .i64 0] 26)
 generalize w.alloc (.cells #[.int .i64 0] 26) = W0 at z1 z2 ⊢
 refine (need_ok 1 _).mono ?_
 rintro e' w' ⟨rfl, hw⟩
 replace hw := hw.symm
 subst hw
 go_wp2_with fail
 go_loopw [24] (fun i w' => ∃ (j : Nat), i = .int .i64 j ∧ Aside0 (j ≤ s.size ∧ w'.heap[w.heap.size]? = some (.cells #[.int .i64 0] 26 (0, 0)) ∧ Below w.heap.size w w')) (fun i _ => 20 - (intOf i).toNat)
 case atStart => exact ⟨0, rfl, Aside0.mk ⟨by omega, z1, z2⟩⟩
 case round =>
  obtain ⟨j, rfl, HA⟩ := hrel
  obtain ⟨hj, z1, z2⟩ := HA.out
  clear HA
  by_cases hjJ : j = s.size
  ·have hpr' := hpr
   clear hpr
   have h16 : (j : Int) ≤ 16 := by omega
   have hge : ¬ (j : Int) < (s.size : Int) := by omega
   go_wp2_with fail
   refine (header_ware.calls kd hk _).mono ?_
   rintro e' w1 ⟨rfl, hb⟩
   have B1 := blk_below z1 hb
   have B2 := Below.trans z2 (hb.mono z2.size)
   rw [hok]
   go_wp2_with fail
   refine (need_ok 4 _).mono ?_
   rintro e' w' ⟨rfl, rfl⟩
   have D1 := blk_alloc B1 (.cells #[.string ⟨#[]⟩, .int .u8 kd, .int .i64 (wareT kd).1, .bool (wareT kd).2.1, .bool (wareT kd).2.2.1, .bool (wareT kd).2.2.2.1, .int .i64 0, .int .i64 0, .int .u8 0, .int .u16 0] 30)
   have D2 := below_alloc B2 (.cells #[.string ⟨#[]⟩, .int .u8 kd, .int .i64 (wareT kd).1, .bool (wareT kd).2.1, .bool (wareT kd).2.2.1, .bool (wareT kd).2.2.2.1, .int .i64 0, .int .i64 0, .int .u8 0, .int .u16 0] 30)
   generalize w1.alloc (.cells #[.string ⟨#[]⟩, .int .u8 kd, .int .i64 (wareT kd).1, .bool (wareT kd).2.1, .bool (wareT kd).2.2.1, .bool (wareT kd).2.2.2.1, .int .i64 0, .int .i64 0, .int .u8 0, .int .u16 0] 30) = W1 at D1 D2 ⊢
   clear z1 z2 B1 B2 hb
   go_wp2_with fail
   (with_reducible refine (header_most.calls rom _ _ (by unfold header_most.f; rw [if_pos h80])).mono ?_)
   rintro e' w' ⟨rfl, ⟨nd, rfl⟩⟩
   go_wp2_with fail
   refine (need_no 5 _).mono ?_
   rintro e' w' ⟨rfl, rfl⟩
   have E1 := blk_drewN D1 nd
   have E2 := pw_below_drewN D2 nd
   generalize W1.drewN nd = W2 at E1 E2 ⊢
   refine leaves_cons (f := 77) (args := #[.pointer (some ⟨w.heap.size, 0, none⟩)]) (by simp) (by simp [go_sem]) ?_
   refine (make_panicking ⟨w.heap.size, 0, none⟩ 0 5 [] _ ((blk_cell (E1) 0).trans rfl) (blk_frozen (E1) 0)).mono ?_
   rintro e u' w'' ⟨rfl, rfl, rfl⟩
   have m1 : ((W2).setCell ⟨w.heap.size, 0, none⟩ (.int .i64 5)).heap[w.heap.size]? = some (.cells #[.int .i64 5] 26 (0, 0)) := blk_put (E1) 0 _ rfl
   have m2 : Below w.heap.size w ((W2).setCell ⟨w.heap.size, 0, none⟩ (.int .i64 5)) := below_set (E2) (Nat.le_refl _)
   generalize ((W2).setCell ⟨w.heap.size, 0, none⟩ (.int .i64 5)) = Y at m1 m2 ⊢
   have v0 : Y.cell? ⟨w.heap.size, 0, none⟩ = some (.int .i64 5) := (blk_cell m1 0).trans rfl
   simp [Leaves, settle, results, Try.results52, go_sem, v0, m2]

  have hb := hpr j (by omega)
  have p9 : 0 ≤ (j : Int) := by omega
  have q9 : (j : Int) < (s.size : Int) := by omega
  have hx9 := bt_at s (j : Int)
  have q9' := q9
  replace p9 := eq_true p9
  replace q9 := eq_true q9
  have hjs : j < s.size := by omega
  have hbt : bt s (j : Int) = ((s[j]'hjs).toNat : Int) := by simp [bt, hjs]
  rw [hbt] at hb
  clear hx9
  go_wp2_with fail
  (with_reducible refine (header_printable.calls _ _ _ (prb_calls _)).mono ?_)
  rintro e' w' ⟨rfl, ⟨nd, rfl⟩⟩
  rw [hb]
  go_wp2_with fail
  refine (need_ok 1 _).mono ?_
  rintro e' w' ⟨rfl, rfl⟩
  go_wp2_with fail
  exact ⟨⟨j + 1, by simp, Aside0.mk ⟨by omega, blk_drewN z1 nd, pw_below_drewN z2 nd⟩⟩, by simp [intOf]; omega⟩
end Go.Proofs.Ytmjjojbedllmgaa.Hand
end
section
namespace Go.Proofs.Ytmjjojbedllmgaa.Hand
open Go.RowKit
open Go.Proofs.Ytmjjojbedllmgaa.G
open Go.Proofs.YtmjjojbedllmgaaW.PrintWords Go.Proofs.YtmjjojbedllmgaaW.PrintLast Go.Proofs.YtmjjojbedllmgaaW.PrintMore
theorem most_le (rom : Int) (h0 : 0 ≤ rom) (h8 : rom ≤ 8) : wrap64 (shl .i64 32768 rom - 336) ≤ 8388272 := by
 have h : rom = 0 ∨ rom = 1 ∨ rom = 2 ∨ rom = 3 ∨ rom = 4 ∨ rom = 5 ∨ rom = 6 ∨ rom = 7 ∨ rom = 8 := by omega
 rcases h with rfl | rfl | rfl | rfl | rfl | rfl | rfl | rfl | rfl <;> decide +kernel
theorem hmake_ok (s : ByteArray) (kd rom ram : Int) (A : Option Addr) (c : Nat) (l : List Int) (w : World) (hr : Kd.C (Kd.int .u8) w A l.length l) (hc : l.length ≤ c) (hs : (s.size : Int) ≤ 16) (hpr : ∀ i : Nat, i < s.size → prb (bt s (i : Int)) = true) (hk : 0 ≤ kd ∧ kd ≤ 255) (hok : (wareT kd).2.2.2.2 = true) (h80 : 0 ≤ rom) (h8 : decide (rom ≤ 8) = true) (h5 : decide (ram ≤ 5) = true) (hm : decide ((l.length : Int) ≤ wrap64 (shl .i64 32768 rom - 336)) = true) (kW : Nat) (wv : Int) (hW : header_Whole.f kW (splice (((((splice (splice (List.replicate (336 + l.length) 0) 256 (bytesOf ⟨#[0, 195, 80, 1]⟩)) 308 (bytesOf s)).set 327 kd).set 328 rom).set 329 ram).set 333 (sumTo (((((splice (splice (List.replicate (336 + l.length) 0) 256 (bytesOf ⟨#[0, 195, 80, 1]⟩)) 308 (bytesOf s)).set 327 kd).set 328 rom).set 329 ram).take 336) 25)) 336 l) = some wv) :
  Calls Try.prog 52 #[.string s, .int .u8 kd, .int .u8 rom, .int .u8 ram, .slice A l.length c] w fun e' w' => ∃ v0_ : Value, e' = .returned (.tuple #[v0_, .int .i64 0]) ∧ Kd.R (Kd.int .u8) 5 w' w.heap.size (fun _ => True) v0_ (((splice (((((splice (splice (List.replicate (336 + l.length) 0) 256 (bytesOf ⟨#[0, 195, 80, 1]⟩)) 308 (bytesOf s)).set 327 kd).set 328 rom).set 329 ram).set 333 (sumTo (((((splice (splice (List.replicate (336 + l.length) 0) 256 (bytesOf ⟨#[0, 195, 80, 1]⟩)) 308 (bytesOf s)).set 327 kd).set 328 rom).set 329 ram).take 336) 25)) 336 l).set 334 (wv / 256 % 256)).set 335 (wv % 256)) ∧ Below w.heap.size w w' := by
 have hmf : ∀ (fn : Fn) (first cap : Array Value) (w : World), (Instr.makeFunc fn first cap).run Try.prog w = .ok (.func fn first cap) w := fun _ _ _ _ => rfl
 have HR := Aside0.mk hr
 clear hr
 go_enter_defers Try.func52, Try.ntmps52
 go_wp2_with fail
 have z1 := heap_alloc_new w (.cells #[.int .i64 0] 26)
 have z2 := below_alloc (Below.refl w.heap.size w) (.cells #[.int .i64 0] 26)
 generalize w.alloc (.cells #[.int .i64 0] 26) = W0 at z1 z2 ⊢
 refine (need_ok 1 _).mono ?_
 rintro e' w' ⟨rfl, hw⟩
 replace hw := hw.symm
 subst hw
 go_wp2_with fail
 go_loopw [24] (fun i w' => ∃ (j : Nat), i = .int .i64 j ∧ Aside0 (j ≤ s.size ∧ w'.heap[w.heap.size]? = some (.cells #[.int .i64 0] 26 (0, 0)) ∧ Below w.heap.size w w')) (fun i _ => 20 - (intOf i).toNat)
 case atStart => exact ⟨0, rfl, Aside0.mk ⟨by omega, z1, z2⟩⟩
 case round =>
  obtain ⟨j, rfl, HA⟩ := hrel
  obtain ⟨hj, z1, z2⟩ := HA.out
  clear HA
  by_cases hjJ : j = s.size
  ·have hpr' := hpr
   clear hpr
   have h16 : (j : Int) ≤ 16 := by omega
   have hge : ¬ (j : Int) < (s.size : Int) := by omega
   go_wp2_with fail
   refine (header_ware.calls kd hk _).mono ?_
   rintro e' w1 ⟨rfl, hb⟩
   have B1 := blk_below z1 hb
   have B2 := Below.trans z2 (hb.mono z2.size)
   rw [hok]
   go_wp2_with fail
   refine (need_ok 4 _).mono ?_
   rintro e' w' ⟨rfl, rfl⟩
   have D1 := blk_alloc B1 (.cells #[.string ⟨#[]⟩, .int .u8 kd, .int .i64 (wareT kd).1, .bool (wareT kd).2.1, .bool (wareT kd).2.2.1, .bool (wareT kd).2.2.2.1, .int .i64 0, .int .i64 0, .int .u8 0, .int .u16 0] 30)
   have D2 := below_alloc B2 (.cells #[.string ⟨#[]⟩, .int .u8 kd, .int .i64 (wareT kd).1, .bool (wareT kd).2.1, .bool (wareT kd).2.2.1, .bool (wareT kd).2.2.2.1, .int .i64 0, .int .i64 0, .int .u8 0, .int .u16 0] 30)
   generalize w1.alloc (.cells #[.string ⟨#[]⟩, .int .u8 kd, .int .i64 (wareT kd).1, .bool (wareT kd).2.1, .bool (wareT kd).2.2.1, .bool (wareT kd).2.2.2.1, .int .i64 0, .int .i64 0, .int .u8 0, .int .u16 0] 30) = W1 at D1 D2 ⊢
   clear z1 z2 B1 B2 hb
   go_wp2_with fail
   (with_reducible refine (header_most.calls rom _ _ (by unfold header_most.f; rw [if_pos h80])).mono ?_)
   rintro e' w' ⟨rfl, ⟨nd, rfl⟩⟩
   go_wp2_with fail
   refine (need_ok 5 _).mono ?_
   rintro e' w' ⟨rfl, rfl⟩
   have E1 := blk_drewN D1 nd
   have E2 := pw_below_drewN D2 nd
   generalize W1.drewN nd = W2 at E1 E2 ⊢
   clear D1 D2
   have hn : (l.length : Int) ≤ 8388272 := Int.le_trans (of_decide_eq_true hm) (most_le rom h80 (of_decide_eq_true h8))
   have hw1 : wrap64 (336 + (l.length : Int)) = 336 + (l.length : Int) := by unfold wrap64; omega
   have hgt : w.heap.size < W2.heap.size := blk_lt E1
   obtain ⟨w3, hmk, R3, K3, B3⟩ := makeRow W2 l.length hn
   have E1 := K3 _ _ _ E1
   have E2 := B3 w E2
   generalize W2.heap.size = g at hgt hmk R3
   have hne : ¬ w.heap.size = g := by omega
   have hz1 : (List.replicate (336 + l.length) (0 : Int)).length = 336 + l.length := by simp
   obtain ⟨w4, hc4, R4, K4, B4⟩ := R3.copyStr 256 80 ⟨#[0, 195, 80, 1]⟩ (by decide) (by rw [hz1]; show 256 + 4 ≤ _; omega)
   have hz2 : (splice (List.replicate (336 + l.length) 0) 256 (bytesOf ⟨#[0, 195, 80, 1]⟩)).length = 336 + l.length := by rw [length_splice _ _ _ (by rw [hz1, bytesOf_length]; show 256 + 4 ≤ _; omega), hz1]
   obtain ⟨w5, hc5, R5, K5, B5⟩ := R4.copyStr 308 28 s (by omega) (by rw [hz2]; omega)
   have hz3 : (splice (splice (List.replicate (336 + l.length) 0) 256 (bytesOf ⟨#[0, 195, 80, 1]⟩)) 308 (bytesOf s)).length = 336 + l.length := by rw [length_splice _ _ _ (by rw [hz2, bytesOf_length]; omega), hz2]
   have E1 := (K5 _ hne).trans ((K4 _ hne).trans E1)
   have E2 := B5 _ _ (by omega) (B4 _ _ (by omega) E2)
   have x327 := R5.cell 327 (by rw [hz3]; omega)
   have x328 := R5.cell 328 (by rw [hz3]; omega)
   have x329 := R5.cell 329 (by rw [hz3]; omega)
   have fz := fun i => R5.frozen i
   go_wp2_with fail
   have R6 := ((R5.put 327 kd).put 328 rom).put 329 ram
   have E1 : (((w5.setCell ⟨g, 327, none⟩ (.int .u8 kd)).setCell ⟨g, 328, none⟩ (.int .u8 rom)).setCell ⟨g, 329, none⟩ (.int .u8 ram)).heap[w.heap.size]? = some (.cells #[.int .i64 0] 26 (0, 0)) := blk_far (blk_far (blk_far E1 hne _) hne _) hne _
   have E2 : Below w.heap.size w (((w5.setCell ⟨g, 327, none⟩ (.int .u8 kd)).setCell ⟨g, 328, none⟩ (.int .u8 rom)).setCell ⟨g, 329, none⟩ (.int .u8 ram)) := below_set (below_set (below_set E2 (by omega)) (by omega)) (by omega)
   clear x327 x328 x329 fz hc4 hc5 hmk R3 R4 R5 K3 K4 K5 B3 B4 B5
   generalize (((w5.setCell ⟨g, 327, none⟩ (.int .u8 kd)).setCell ⟨g, 328, none⟩ (.int .u8 rom)).setCell ⟨g, 329, none⟩ (.int .u8 ram)) = w6 at R6 E1 E2 ⊢
   have hz4 : ((((splice (splice (List.replicate (336 + l.length) 0) 256 (bytesOf ⟨#[0, 195, 80, 1]⟩)) 308 (bytesOf s)).set 327 kd).set 328 rom).set 329 ram).length = 336 + l.length := by rw [List.length_set, List.length_set, List.length_set, hz3]
   have hl3 : (((((splice (splice (List.replicate (336 + l.length) 0) 256 (bytesOf ⟨#[0, 195, 80, 1]⟩)) 308 (bytesOf s)).set 327 kd).set 328 rom).set 329 ram).take 336).length = 336 := by rw [List.length_take, hz4]; omega
   have q := header_sum.calls (some ⟨g, 0, none⟩) (336 + l.length) (((((splice (splice (List.replicate (336 + l.length) 0) 256 (bytesOf ⟨#[0, 195, 80, 1]⟩)) 308 (bytesOf s)).set 327 kd).set 328 rom).set 329 ram).take 336) (sumTo (((((splice (splice (List.replicate (336 + l.length) 0) 256 (bytesOf ⟨#[0, 195, 80, 1]⟩)) 308 (bytesOf s)).set 327 kd).set 328 rom).set 329 ram).take 336) 25) w6 (by rw [hl3]; exact R6.reads 336 (by omega) (by omega)) (by rw [hl3]; omega) (by unfold header_sum.f; rw [if_pos (by rw [hl3]; omega)])
   rw [hl3] at q
   refine q.mono ?_
   clear q
   rintro e' w' ⟨rfl, hw⟩
   replace hw := hw.symm
   subst hw
   have x333 := R6.cell 333 (by rw [hz4]; omega)
   have fz := fun i => R6.frozen i
   have R7 := R6.put 333 (sumTo (((((splice (splice (List.replicate (336 + l.length) 0) 256 (bytesOf ⟨#[0, 195, 80, 1]⟩)) 308 (bytesOf s)).set 327 kd).set 328 rom).set 329 ram).take 336) 25)
   have E1 := blk_far (p := ⟨g, 333, none⟩) E1 hne (.int .u8 (sumTo (((((splice (splice (List.replicate (336 + l.length) 0) 256 (bytesOf ⟨#[0, 195, 80, 1]⟩)) 308 (bytesOf s)).set 327 kd).set 328 rom).set 329 ram).take 336) 25))
   have E2 := below_set (j := 333) (v := .int .u8 (sumTo (((((splice (splice (List.replicate (336 + l.length) 0) 256 (bytesOf ⟨#[0, 195, 80, 1]⟩)) 308 (bytesOf s)).set 327 kd).set 328 rom).set 329 ram).take 336) 25)) E2 (show w.heap.size ≤ g by omega)
   have hz7 : (((((splice (splice (List.replicate (336 + l.length) 0) 256 (bytesOf ⟨#[0, 195, 80, 1]⟩)) 308 (bytesOf s)).set 327 kd).set 328 rom).set 329 ram).set 333 (sumTo (((((splice (splice (List.replicate (336 + l.length) 0) 256 (bytesOf ⟨#[0, 195, 80, 1]⟩)) 308 (bytesOf s)).set 327 kd).set 328 rom).set 329 ram).take 336) 25)).length = 336 + l.length := by rw [List.length_set, hz4]
   obtain ⟨w8, ha, R8, K8, B8⟩ := R7.append 336 (336 + l.length) A c l (Kd.C_below HR.out E2) (Nat.le_refl _) (by rw [hz7]; omega)
   have E1 := (K8 _ hne).trans E1
   have E2 := B8 _ _ (by omega) E2
   have hz8 : (splice (((((splice (splice (List.replicate (336 + l.length) 0) 256 (bytesOf ⟨#[0, 195, 80, 1]⟩)) 308 (bytesOf s)).set 327 kd).set 328 rom).set 329 ram).set 333 (sumTo (((((splice (splice (List.replicate (336 + l.length) 0) 256 (bytesOf ⟨#[0, 195, 80, 1]⟩)) 308 (bytesOf s)).set 327 kd).set 328 rom).set 329 ram).take 336) 25)) 336 l).length = 336 + l.length := by rw [length_splice _ _ _ (by rw [hz7]; omega), hz7]
   go_wp2_with (at_builtin; refine wpList_append_run rfl _ _ 22 rfl _ _ _ rfl rfl ha ?_)
   have q := header_Whole.calls kW (some ⟨g, 0, none⟩) (336 + l.length) (splice (((((splice (splice (List.replicate (336 + l.length) 0) 256 (bytesOf ⟨#[0, 195, 80, 1]⟩)) 308 (bytesOf s)).set 327 kd).set 328 rom).set 329 ram).set 333 (sumTo (((((splice (splice (List.replicate (336 + l.length) 0) 256 (bytesOf ⟨#[0, 195, 80, 1]⟩)) 308 (bytesOf s)).set 327 kd).set 328 rom).set 329 ram).take 336) 25)) 336 l) wv w8 (by rw [hz8]; have z := R8.reads (336 + l.length) (by omega) (by omega); rwa [List.take_of_length_le (by omega)] at z) (by rw [hz8]; omega) hW
   rw [hz8] at q
   refine q.mono ?_
   clear q
   rintro e' w' ⟨rfl, ⟨nW, rfl⟩⟩
   have R9 : RowL (w8.drewN nW) g (splice (((((splice (splice (List.replicate (336 + l.length) 0) 256 (bytesOf ⟨#[0, 195, 80, 1]⟩)) 308 (bytesOf s)).set 327 kd).set 328 rom).set 329 ram).set 333 (sumTo (((((splice (splice (List.replicate (336 + l.length) 0) 256 (bytesOf ⟨#[0, 195, 80, 1]⟩)) 308 (bytesOf s)).set 327 kd).set 328 rom).set 329 ram).take 336) 25)) 336 l) := blk_drewN R8 nW
   have E1 := blk_drewN E1 nW
   have E2 := pw_below_drewN E2 nW
   clear ha R6 R7 R8 K8 B8 x333 fz
   generalize w8.drewN nW = w9 at R9 E1 E2 ⊢
   have x334 := R9.cell 334 (by rw [hz8]; omega)
   have x335 := R9.cell 335 (by rw [hz8]; omega)
   have fz := fun i => R9.frozen i
   have e0 : w9.cell? ⟨w.heap.size, 0, none⟩ = some (.int .i64 0) := (blk_cell E1 0).trans rfl
   have fe := fun i => blk_frozen E1 i
   have hne2 : ¬ g = w.heap.size := by omega
   have hwa : (334 : Int) < 336 + (l.length : Int) := by omega
   have hwb : (335 : Int) < 336 + (l.length : Int) := by omega
   go_wp2_with fail
   have R10 := ((R9.put 334 (wv / 256 % 256)).put 335 (wv % 256)).far hne2 0 (.int .i64 0)
   have m1 : (((w9.setCell ⟨g, 334, none⟩ (.int .u8 (wv / 256 % 256))).setCell ⟨g, 335, none⟩ (.int .u8 (wv % 256))).setCell ⟨w.heap.size, 0, none⟩ (.int .i64 0)).heap[w.heap.size]? = some (.cells #[.int .i64 0] 26 (0, 0)) := blk_put (blk_far (blk_far E1 hne _) hne _) 0 _ rfl
   have m2 : Below w.heap.size w (((w9.setCell ⟨g, 334, none⟩ (.int .u8 (wv / 256 % 256))).setCell ⟨g, 335, none⟩ (.int .u8 (wv % 256))).setCell ⟨w.heap.size, 0, none⟩ (.int .i64 0)) := below_set (below_set (below_set E2 (by omega)) (by omega)) (Nat.le_refl _)
   clear x334 x335 fz e0 fe hwa hwb E1 E2 R9
   generalize (((w9.setCell ⟨g, 334, none⟩ (.int .u8 (wv / 256 % 256))).setCell ⟨g, 335, none⟩ (.int .u8 (wv % 256))).setCell ⟨w.heap.size, 0, none⟩ (.int .i64 0)) = Y at R10 m1 m2 ⊢
   have v0 : Y.cell? ⟨w.heap.size, 0, none⟩ = some (.int .i64 0) := (blk_cell m1 0).trans rfl
   have hz10 : (((splice (((((splice (splice (List.replicate (336 + l.length) 0) 256 (bytesOf ⟨#[0, 195, 80, 1]⟩)) 308 (bytesOf s)).set 327 kd).set 328 rom).set 329 ram).set 333 (sumTo (((((splice (splice (List.replicate (336 + l.length) 0) 256 (bytesOf ⟨#[0, 195, 80, 1]⟩)) 308 (bytesOf s)).set 327 kd).set 328 rom).set 329 ram).take 336) 25)) 336 l).set 334 (wv / 256 % 256)).set 335 (wv % 256)).length = 336 + l.length := by rw [List.length_set, List.length_set, hz8]
   have hv := R10.row (base := w.heap.size) (by omega) (by rw [hz10]; simp only [maxLen]; omega)
   rw [hz10] at hv
   refine leaves_cons (f := 77) (args := #[.pointer (some ⟨w.heap.size, 0, none⟩)]) (by simp) (by simp [go_sem]) ?_
   refine (make_idle ⟨w.heap.size, 0, none⟩ _).mono ?_
   rintro e u' w'' ⟨rfl, rfl, rfl⟩
   simp [Leaves, settle, results, Try.results52, go_sem, v0]
   exact ⟨hv, m2⟩

  have hb := hpr j (by omega)
  have p9 : 0 ≤ (j : Int) := by omega
  have q9 : (j : Int) < (s.size : Int) := by omega
  have hx9 := bt_at s (j : Int)
  have q9' := q9
  replace p9 := eq_true p9
  replace q9 := eq_true q9
  have hjs : j < s.size := by omega
  have hbt : bt s (j : Int) = ((s[j]'hjs).toNat : Int) := by simp [bt, hjs]
  rw [hbt] at hb
  clear hx9
  go_wp2_with fail
  (with_reducible refine (header_printable.calls _ _ _ (prb_calls _)).mono ?_)
  rintro e' w' ⟨rfl, ⟨nd, rfl⟩⟩
  rw [hb]
  go_wp2_with fail
  refine (need_ok 1 _).mono ?_
  rintro e' w' ⟨rfl, rfl⟩
  go_wp2_with fail
  exact ⟨⟨j + 1, by simp, Aside0.mk ⟨by omega, blk_drewN z1 nd, pw_below_drewN z2 nd⟩⟩, by simp [intOf]; omega⟩
end Go.Proofs.Ytmjjojbedllmgaa.Hand
end
section
namespace Go.Proofs.Ytmjjojbedllmgaa.Hand
open Go.RowKit
open Go.Proofs.Ytmjjojbedllmgaa.G
open Go.Proofs.YtmjjojbedllmgaaW.PrintWords Go.Proofs.YtmjjojbedllmgaaW.PrintLast Go.Proofs.YtmjjojbedllmgaaW.PrintMore
def titleOk (s : ByteArray) : Bool := (List.range s.size).all fun i => prb (bt s (i : Int))
theorem first_no (p : Nat → Bool) : ∀ n, (∃ i, i < n ∧ p i = false) → ∃ j, j < n ∧ (∀ i, i < j → p i = true) ∧ p j = false
 | 0, h => by obtain ⟨i, hi, _⟩ := h; omega
 | n + 1, h => by
  by_cases q : ∃ i, i < n ∧ p i = false
  ·obtain ⟨j, hj, h1, h2⟩ := first_no p n q
   exact ⟨j, by omega, h1, h2⟩
  ·obtain ⟨i, hi, hp⟩ := h
   have hin : i = n := by
    rcases Nat.lt_or_ge i n with z | z
    ·exact absurd ⟨i, z, hp⟩ q
    ·omega
   subst hin
   refine ⟨i, by omega, fun k hk => ?_, hp⟩
   cases e : p k with
   | true => rfl
   | false => exact absurd ⟨k, hk, e⟩ q
theorem titleOk_iff (s : ByteArray) : titleOk s = true ↔ ∀ i : Nat, i < s.size → prb (bt s (i : Int)) = true := by
 unfold titleOk
 rw [List.all_eq_true]
 constructor
 ·intro h i hi; exact h i (List.mem_range.mpr hi)
 ·intro h i hi; exact h i (List.mem_range.mp hi)
def makeL (s : ByteArray) (kd rom ram : Int) (l : List Int) : List Int := (splice (((((splice (splice (List.replicate (336 + l.length) 0) 256 (bytesOf ⟨#[0, 195, 80, 1]⟩)) 308 (bytesOf s)).set 327 kd).set 328 rom).set 329 ram).set 333 (sumTo (((((splice (splice (List.replicate (336 + l.length) 0) 256 (bytesOf ⟨#[0, 195, 80, 1]⟩)) 308 (bytesOf s)).set 327 kd).set 328 rom).set 329 ram).take 336) 25)) 336 l)
def header_Make.f (s : ByteArray) (kd rom ram : Int) (l : List Int) : Option (List Int × Int) :=
 if (s.size : Int) ≤ 16 then
  if titleOk s = true then
   if 0 ≤ kd ∧ kd ≤ 255 ∧ 0 ≤ rom then
    if (wareT kd).2.2.2.2 = true then
     if rom ≤ 8 ∧ ram ≤ 5 ∧ (l.length : Int) ≤ wrap64 (shl .i64 32768 rom - 336) then
      (header_Whole.f (337 + l.length) (makeL s kd rom ram l)).bind fun wv => some (((makeL s kd rom ram l).set 334 (wv / 256 % 256)).set 335 (wv % 256), 0)
     else some ([], 5)
    else some ([], 4)
   else none
  else some ([], 1)
 else some ([], 1)
theorem of_refused {f : FuncId} {args : Array Value} {w : World} {n : Int} (h : Calls Try.prog f args w fun e' w' => e' = .returned (.tuple #[.slice none 0 0, .int .i64 n]) ∧ Below w.heap.size w w') :
  Calls Try.prog f args w fun e w' => ∃ v0_ : Value, e = .returned (.tuple #[v0_, .int .i64 n]) ∧ Kd.R (Kd.int .u8) 5 w' w.heap.size (fun _ => True) v0_ [] ∧ Below w.heap.size w w' :=
 h.mono fun _ _ ⟨e, b⟩ => ⟨_, e, Kd.R_nil _ _ _ _ _, b⟩
theorem header_Make.calls (a0 : ByteArray) (a1 a2 a3 : Int) (A4 : Option Addr) (c4 : Nat) (l4 : List Int) (r1 : List Int) (r2 : Int) (w : World) (hr4 : Kd.C (Kd.int .u8) w A4 l4.length l4) (hc4 : l4.length ≤ c4) (h : header_Make.f a0 a1 a2 a3 l4 = some (r1, r2)) :
  Calls Try.prog 52 #[.string a0, .int .u8 a1, .int .u8 a2, .int .u8 a3, .slice A4 l4.length c4] w fun e w' => ∃ v0_ : Value, e = .returned (.tuple #[v0_, .int .i64 r2]) ∧ Kd.R (Kd.int .u8) 5 w' w.heap.size (fun _ => True) v0_ r1 ∧ Below w.heap.size w w' := by
 unfold header_Make.f at h
 by_cases hs : (a0.size : Int) ≤ 16
 case neg =>
  rw [if_neg hs] at h
  cases h
  exact of_refused (hmake_long a0 a1 a2 a3 A4 c4 l4 w hr4 hc4 hs)
 rw [if_pos hs] at h
 by_cases ht : titleOk a0 = true
 case neg =>
  rw [if_neg ht] at h
  cases h
  have hex : ∃ i, i < a0.size ∧ (fun i : Nat => prb (bt a0 (i : Int))) i = false := by
   refine Classical.byContradiction fun q => ht ((titleOk_iff a0).mpr fun i hi => ?_)
   cases e : prb (bt a0 (i : Int)) with
   | true => rfl
   | false => exact absurd ⟨i, hi, e⟩ q
  obtain ⟨j, hj, h1, h2⟩ := first_no _ _ hex
  exact of_refused (hmake_sign a0 a1 a2 a3 A4 c4 l4 w hr4 hc4 hs j (by omega) h1 h2)
 rw [if_pos ht] at h
 have hpr := (titleOk_iff a0).mp ht
 by_cases hk : 0 ≤ a1 ∧ a1 ≤ 255 ∧ 0 ≤ a2
 case neg => rw [if_neg hk] at h; cases h
 rw [if_pos hk] at h
 obtain ⟨k1, k2, k3⟩ := hk
 by_cases hok : (wareT a1).2.2.2.2 = true
 case neg =>
  rw [if_neg hok] at h
  cases h
  exact of_refused (hmake_kind a0 a1 a2 a3 A4 c4 l4 w hr4 hc4 hs hpr ⟨k1, k2⟩ (Bool.eq_false_iff.mpr hok))
 rw [if_pos hok] at h
 by_cases h8 : a2 ≤ 8
 case neg =>
  rw [if_neg (fun z => h8 z.1)] at h
  cases h
  exact of_refused (hmake_size_a a0 a1 a2 a3 A4 c4 l4 w hr4 hc4 hs hpr ⟨k1, k2⟩ hok (decide_eq_false h8))
 by_cases h5 : a3 ≤ 5
 case neg =>
  rw [if_neg (fun z => h5 z.2.1)] at h
  cases h
  exact of_refused (hmake_size_b a0 a1 a2 a3 A4 c4 l4 w hr4 hc4 hs hpr ⟨k1, k2⟩ hok (decide_eq_true h8) (decide_eq_false h5))
 by_cases hm : (l4.length : Int) ≤ wrap64 (shl .i64 32768 a2 - 336)
 case neg =>
  rw [if_neg (fun z => hm z.2.2)] at h
  cases h
  exact of_refused (hmake_size_c a0 a1 a2 a3 A4 c4 l4 w hr4 hc4 hs hpr ⟨k1, k2⟩ hok k3 (decide_eq_true h8) (decide_eq_true h5) (decide_eq_false hm))
 rw [if_pos ⟨h8, h5, hm⟩] at h
 obtain ⟨wv, hW, h⟩ := Option.bind_eq_some_iff.mp h
 cases h
 exact hmake_ok a0 a1 a2 a3 A4 c4 l4 w hr4 hc4 hs hpr ⟨k1, k2⟩ hok k3 (decide_eq_true h8) (decide_eq_true h5) (decide_eq_true hm) _ wv hW
end Go.Proofs.Ytmjjojbedllmgaa.Hand
end
section
namespace Go.Proofs.Ytmjjojbedllmgaa.G
open Go.RowKit Go.Proofs.YtmjjojbedllmgaaW.PrintWords Go.Proofs.YtmjjojbedllmgaaW.PrintLast Go.Proofs.YtmjjojbedllmgaaW.PrintMore
open Go.Proofs.Ytmjjojbedllmgaa.Hand
def whirligiglaw10_made.f (a0 : Int) (a1 : Int) : Option (List Int) := (header_Make.f (⟨#[83, 72, 79, 87, 78]⟩ : ByteArray) a0 0 a1 (([1, 2, 3] : List Int))).bind fun bt124 => (some bt124.1)
theorem whirligiglaw10_made.calls (a0 : Int) (a1 : Int) (r : List Int) (w : World) (h : whirligiglaw10_made.f a0 a1 = some r) :
  Calls Try.prog 27 #[.int .u8 a0, .int .u8 a1] w fun e w' => ∃ v0_ : Value, e = .returned (v0_) ∧ Kd.R (Kd.int .u8) 5 w' w.heap.size (fun _ => True) v0_ r ∧ Below w.heap.size w w' := by
 have HB := Aside0.mk (Below.refl w.heap.size w)
 have H : ((header_Make.f (⟨#[83, 72, 79, 87, 78]⟩ : ByteArray) a0 0 a1 (([1, 2, 3] : List Int))).bind fun bt124 => (some bt124.1)) = some r := h
 clear h
 obtain ⟨y121, hy121⟩ : ∃ y_ : List Int, y_ = (([1, 2, 3] : List Int)) := ⟨_, rfl⟩
 replace H : ((header_Make.f (⟨#[83, 72, 79, 87, 78]⟩ : ByteArray) a0 0 a1 y121).bind fun bt124 => (some bt124.1)) = some r := by first | (rw [hy121]; with_reducible exact H) | (have H2_ := (Option.bind_some _ _).symm.trans H; rw [hy121]; with_reducible exact H2_) | (have H2_ := (Option.bind_some _ _).symm.trans H; with_reducible exact H2_) | with_reducible exact H | (rw [hy121]; exact H) | exact H
 have Ny121 := Aside0.mk hy121
 clear hy121
 replace H := Option.bind_eq_some_iff.mp H
 obtain ⟨⟨t124, t125⟩, A30, H⟩ := H
 replace H : (some t124) = some r := H
 have A3 := Aside0.mk A30
 clear A30
 obtain rfl := Option.some.inj H
 go_enter Try.func27, Try.ntmps27
 go_wp2_with (first | ((with_reducible refine gate_dst (N := 10) rfl ?_); refine Kd.R_lit (Kd.int .u8) _ 5 ?hg (N := 10) ?hd (xs := ([1, 2, 3] : List Int)) (inner := [.int .u8 1, .int .u8 2, .int .u8 3]) (ok := fun _ => True) (okp := fun _ => True) ?hr ?hp (fun _ hk => hk) trivial (Below.refl _ _) (Nat.le_refl _) (by simp) ?_; (case hd => rfl); (case hg => rfl); (case hr => first | (go_simp; done) | (go_simp; rfl)); (case hp => exact (Reps.one (show Kd.M (Kd.int .u8) _ _ _ 1 [.int .u8 1] from rfl) (Reps.one (show Kd.M (Kd.int .u8) _ _ _ 2 [.int .u8 2] from rfl) (Reps.one (show Kd.M (Kd.int .u8) _ _ _ 3 [.int .u8 3] from rfl) (Reps.none _ _))))); intro v122 w4 ho5 hb hg_ hnew_; clear hg_ hnew_; (first | rw [← Ny121.out] at ho5 | (simp only [Int.reduceToNat] at ho5; rw [← Ny121.out] at ho5)); have n0_ := Aside0.mk (Kd.R_lower ho5 (below_size (by repeat (first | (with_reducible first | exact HB.out | apply below_alloc | apply pw_below_drewN | apply below_drew1) | exact HB.out)))); have n1_ := Aside0.mk (below_step (by repeat (first | (with_reducible first | exact HB.out | apply below_alloc | apply pw_below_drewN | apply below_drew1) | exact HB.out)) hb); clear HB; have HO123 := n0_; have HB := n1_; clear n0_ n1_; clear hb ho5; obtain ⟨Ao6, co6, eo6⟩ := Kd.R_slice HO123.out; subst eo6) | ((with_reducible refine gate_callee (f := 52) rfl ?_); refine goesL_ (some 11) rfl rfl Try.func52 (by kernel_rfl) rfl #[.string (⟨#[83, 72, 79, 87, 78]⟩ : ByteArray), .int .u8 a0, .int .u8 0, .int .u8 a1, .slice Ao6 y121.length co6] rfl (by (try simp only [List.map_toArray, List.map_cons, List.map_nil]); first | done | rfl | (simp only [List.length_drop, List.length_take]; rfl)) ?_; (with_reducible refine (header_Make.calls (⟨#[83, 72, 79, 87, 78]⟩ : ByteArray) a0 0 a1 _ _ y121 t124 t125 _ ?side1 ?side2 A3.out).mono ?_); (case side1 => repeat (first | exact (Kd.R_reads' HO123.out).2.2 | (with_reducible refine Kd.C_alloc ?_ _) | (with_reducible refine Kd.C_drewN ?_ _) | (with_reducible refine Kd.C_drew ?_))); (case side2 => exact (Kd.R_reads' HO123.out).2.1); rintro e w7 ⟨v126, rfl, ho0, hb⟩; refine ⟨_, rfl, ?_⟩; have n0_ := Aside0.mk (Kd.R_elder' (by (with_reducible repeat (first | apply Kd.R_alloc | apply Kd.R_drewN | apply Kd.R_drew)); exact HO123.out) (Kd.R_base ho0) hb); have n1_ := Aside0.mk (Kd.R_lower (Kd.R_new' ho0 (Kd.R_lt (by (with_reducible repeat (first | apply Kd.R_alloc | apply Kd.R_drewN | apply Kd.R_drew)); exact HO123.out))) (below_size (by repeat (first | (with_reducible first | exact HB.out | apply below_alloc | apply pw_below_drewN | apply below_drew1) | exact HB.out)))); have n2_ := Aside0.mk (below_step (by repeat (first | (with_reducible first | exact HB.out | apply below_alloc | apply pw_below_drewN | apply below_drew1) | exact HB.out)) hb); clear HO123; clear HB; have HO123 := n0_; have HO127 := n1_; have HB := n2_; clear n0_ n1_ n2_; (try clear hb); (try clear hb2); (try clear hk); (try clear hi); (try clear ho0)))
 go_ret
 exact ⟨_, by first | rfl | (simp [errW_none, errW_some] <;> rfl) | (simp [*, errW_none, errW_some] <;> rfl), by (with_reducible repeat (first | apply Kd.R_alloc | apply Kd.R_drewN | apply Kd.R_drew)); exact Kd.R_mono HO127.out (fun _ hk => trivial), by repeat (first | (with_reducible first | exact HB.out | apply below_alloc | apply pw_below_drewN | apply below_drew1) | exact HB.out)⟩
end Go.Proofs.Ytmjjojbedllmgaa.G
end
section
namespace Go.Proofs.Ytmjjojbedllmgaa.Hand
open Go.RowKit
open Go.Proofs.Ytmjjojbedllmgaa.G
open Go.Proofs.YtmjjojbedllmgaaW.PrintWords Go.Proofs.YtmjjojbedllmgaaW.PrintLast Go.Proofs.YtmjjojbedllmgaaW.PrintMore
def madeL (k : Int) : List Int := (whirligiglaw10_made.f k 2).getD []
theorem made_is2 : whirligiglaw10_made.f 2 2 = some (madeL 2) ∧ headE (madeL 2) = 0 ∧ ((madeL 2).all fun x => decide (0 ≤ x) && decide (x ≤ 255)) = true := by decide +kernel
theorem made_is16 : whirligiglaw10_made.f 16 2 = some (madeL 16) ∧ headE (madeL 16) = 0 ∧ ((madeL 16).all fun x => decide (0 ≤ x) && decide (x ≤ 255)) = true := by decide +kernel
theorem bytes_all {l : List Int} (h : (l.all fun x => decide (0 ≤ x) && decide (x ≤ 255)) = true) : Bytes l := by
 intro x hx
 have q := List.all_eq_true.mp h x hx
 simpa using q
def sc0 : Ct := (newC (madeL 2))
def sc1 : Ct := (sc0.write 40960 5)
def sc2 : Ct := (sc1.write 0 10)
def sc3 : Ct := (sc2.write 40960 5)
def sd0 : Ct := (newC (madeL 16))
def sd1 : Ct := (sd0.write 0 10)
def sd2 : Ct := (sd1.write 16384 8)
def sd3 : Ct := sd2.tick
def sd4 : Ct := (sd3.write 24576 0)
def sd5 : Ct := (sd4.write 24576 1)
theorem sc0_ok : sc0.Ok := newC_ok (bytes_all made_is2.2.2) made_is2.2.1
theorem sc1_ok : sc1.Ok := sc0_ok.write _ _ (by decide)
theorem sc2_ok : sc2.Ok := sc1_ok.write _ _ (by decide)
theorem sc3_ok : sc3.Ok := sc2_ok.write _ _ (by decide)
theorem sd0_ok : sd0.Ok := newC_ok (bytes_all made_is16.2.2) made_is16.2.1
theorem sd1_ok : sd1.Ok := sd0_ok.write _ _ (by decide)
theorem sd2_ok : sd2.Ok := sd1_ok.write _ _ (by decide)
theorem sd3_ok : sd3.Ok := sd2_ok.tick
theorem sd4_ok : sd4.Ok := sd3_ok.write _ _ (by decide)
theorem sd5_ok : sd5.Ok := sd4_ok.write _ _ (by decide)
theorem sc_reads : sc1.read 40960 = 255 ∧ sc3.read 40960 = 5 ∧ sc3.read 336 = 1 := by decide +kernel
theorem sd_reads : sd3.read 40960 = 0 ∧ sd5.read 40960 = 1 := by decide +kernel
theorem shown_at (w : World) : Calls Try.prog 9 #[] w fun e w' => e = .returned (.bool true) ∧ Below w.heap.size w w' := by
 go_enter Try.func9, Try.ntmps9
 go_wp2_with fail
 refine (whirligiglaw10_made.calls 2 2 (madeL 2) _ made_is2.1).mono ?_
 rintro e' w1 ⟨v0, rfl, hR, hb⟩
 obtain ⟨A, c, rfl⟩ := Kd.R_slice hR
 obtain ⟨-, hc, hC⟩ := Kd.R_reads' hR
 have HB := Aside0.mk hb
 have HN := Aside0.mk (new_at A c (madeL 2) w1 hC hc (bytes_all made_is2.2.2) made_is2.2.1)
 clear hb hR hC hc
 go_wp2_with fail
 refine HN.out.mono ?_
 rintro e' w2 ⟨a, rfl, hCa, ha1, ha2, ha3, hb⟩
 have CA := Aside0.mk (show CartAt w2 a sc0 from hCa)
 have HA := Aside0.mk (show w.heap.size ≤ a.b ∧ w.heap.size ≤ a.gr from ⟨Nat.le_trans HB.out.size ha1, Nat.le_trans HB.out.size ha3⟩)
 have HB2 := Aside0.mk (below_step HB.out hb)
 clear hCa ha1 ha2 ha3 hb HB HN
 go_wp2_with fail
 refine (whirligiglaw10_made.calls 16 2 (madeL 16) _ made_is16.1).mono ?_
 rintro e' w3 ⟨v0, rfl, hR, hb⟩
 obtain ⟨A, c, rfl⟩ := Kd.R_slice hR
 obtain ⟨-, hc, hC⟩ := Kd.R_reads' hR
 have CA2 := Aside0.mk (CA.out.below hb)
 have HB := Aside0.mk (below_step HB2.out hb)
 have HN := Aside0.mk (new_at _ c (madeL 16) w3 hC hc (bytes_all made_is16.2.2) made_is16.2.1)
 clear CA HB2 hb hR hC hc
 go_wp2_with fail
 refine HN.out.mono ?_
 rintro e' w4 ⟨d, rfl, hCd, hd1, hd2, hd3, hb⟩
 have CD := Aside0.mk (show CartAt w4 d sd0 from hCd)
 have HD := Aside0.mk (show w.heap.size ≤ d.b ∧ w.heap.size ≤ d.gr from ⟨Nat.le_trans HB.out.size hd1, Nat.le_trans HB.out.size hd3⟩)
 have HAD := Aside0.mk (show (a.b < w3.heap.size ∧ a.gi < w3.heap.size ∧ a.gr < w3.heap.size) ∧ w3.heap.size ≤ d.b ∧ w3.heap.size ≤ d.gi ∧ w3.heap.size ≤ d.gr from ⟨⟨CA2.out.ltb, CA2.out.lti, CA2.out.ltr⟩, hd1, hd2, hd3⟩)
 have CA := Aside0.mk (CA2.out.below hb)
 have HB2 := Aside0.mk (below_step HB.out hb)
 clear hCd hd1 hd2 hd3 hb HB HN CA2
 go_wp2_with fail
 refine (write_at CA.out sc0_ok 40960 5 (by decide)).mono ?_
 rintro e' w5 ⟨rfl, hC, hu⟩
 have X := Aside0.mk (show CartAt w5 a sc1 from hC)
 have Y := Aside0.mk (CD.out.other hu _ HAD.out.1.1 HAD.out.1.2.2 HAD.out.2.1 HAD.out.2.2.1 HAD.out.2.2.2)
 have HB := Aside0.mk (upto_step HB2.out (Nat.le_refl _) hu HA.out.1 HA.out.2)
 clear hC hu HB2 CA CD
 have CA := X
 have CD := Y
 clear X Y
 go_wp2_with fail
 refine (read_at CA.out sc1_ok 40960 (by decide)).mono ?_
 rintro e' w6 ⟨rfl, hb⟩
 rw [sc_reads.1]
 have X := Aside0.mk (CA.out.below hb)
 have Y := Aside0.mk (CD.out.below hb)
 have HB2 := Aside0.mk (below_step HB.out hb)
 clear hb HB CA CD
 have CA := X
 have CD := Y
 clear X Y
 go_wp2_with fail
 refine (write_at CA.out sc1_ok 0 10 (by decide)).mono ?_
 rintro e' w7 ⟨rfl, hC, hu⟩
 have X := Aside0.mk (show CartAt w7 a sc2 from hC)
 have Y := Aside0.mk (CD.out.other hu _ HAD.out.1.1 HAD.out.1.2.2 HAD.out.2.1 HAD.out.2.2.1 HAD.out.2.2.2)
 have HB := Aside0.mk (upto_step HB2.out (Nat.le_refl _) hu HA.out.1 HA.out.2)
 clear hC hu HB2 CA CD
 have CA := X
 have CD := Y
 clear X Y
 go_wp2_with fail
 refine (write_at CA.out sc2_ok 40960 5 (by decide)).mono ?_
 rintro e' w8 ⟨rfl, hC, hu⟩
 have X := Aside0.mk (show CartAt w8 a sc3 from hC)
 have Y := Aside0.mk (CD.out.other hu _ HAD.out.1.1 HAD.out.1.2.2 HAD.out.2.1 HAD.out.2.2.1 HAD.out.2.2.2)
 have HB2 := Aside0.mk (upto_step HB.out (Nat.le_refl _) hu HA.out.1 HA.out.2)
 clear hC hu HB CA CD
 have CA := X
 have CD := Y
 clear X Y
 go_wp2_with fail
 refine (write_at CD.out sd0_ok 0 10 (by decide)).mono ?_
 rintro e' w9 ⟨rfl, hC, hu⟩
 have X := Aside0.mk (show CartAt w9 d sd1 from hC)
 have Y := Aside0.mk (CA.out.first hu _ HAD.out.1.1 HAD.out.1.2.1 HAD.out.1.2.2 HAD.out.2.1 HAD.out.2.2.2)
 have HB := Aside0.mk (upto_step HB2.out (Nat.le_refl _) hu HD.out.1 HD.out.2)
 clear hC hu HB2 CA CD
 have CD := X
 have CA := Y
 clear X Y
 go_wp2_with fail
 refine (write_at CD.out sd1_ok 16384 8 (by decide)).mono ?_
 rintro e' w10 ⟨rfl, hC, hu⟩
 have X := Aside0.mk (show CartAt w10 d sd2 from hC)
 have Y := Aside0.mk (CA.out.first hu _ HAD.out.1.1 HAD.out.1.2.1 HAD.out.1.2.2 HAD.out.2.1 HAD.out.2.2.2)
 have HB2 := Aside0.mk (upto_step HB.out (Nat.le_refl _) hu HD.out.1 HD.out.2)
 clear hC hu HB CA CD
 have CD := X
 have CA := Y
 clear X Y
 go_wp2_with fail
 refine (tick_all CD.out).mono ?_
 rintro e' w11 ⟨rfl, hC, hu⟩
 have X := Aside0.mk (show CartAt w11 d sd3 from hC)
 have Y := Aside0.mk (CA.out.first hu _ HAD.out.1.1 HAD.out.1.2.1 HAD.out.1.2.2 HAD.out.2.1 HAD.out.2.2.2)
 have HB := Aside0.mk (upto_step HB2.out (Nat.le_refl _) hu HD.out.1 HD.out.2)
 clear hC hu HB2 CA CD
 have CD := X
 have CA := Y
 clear X Y
 go_wp2_with fail
 refine (read_at CD.out sd3_ok 40960 (by decide)).mono ?_
 rintro e' w12 ⟨rfl, hb⟩
 rw [sd_reads.1]
 have X := Aside0.mk (CA.out.below hb)
 have Y := Aside0.mk (CD.out.below hb)
 have HB2 := Aside0.mk (below_step HB.out hb)
 clear hb HB CA CD
 have CA := X
 have CD := Y
 clear X Y
 go_wp2_with fail
 refine (write_at CD.out sd3_ok 24576 0 (by decide)).mono ?_
 rintro e' w13 ⟨rfl, hC, hu⟩
 have X := Aside0.mk (show CartAt w13 d sd4 from hC)
 have Y := Aside0.mk (CA.out.first hu _ HAD.out.1.1 HAD.out.1.2.1 HAD.out.1.2.2 HAD.out.2.1 HAD.out.2.2.2)
 have HB := Aside0.mk (upto_step HB2.out (Nat.le_refl _) hu HD.out.1 HD.out.2)
 clear hC hu HB2 CA CD
 have CD := X
 have CA := Y
 clear X Y
 go_wp2_with fail
 refine (write_at CD.out sd4_ok 24576 1 (by decide)).mono ?_
 rintro e' w14 ⟨rfl, hC, hu⟩
 have X := Aside0.mk (show CartAt w14 d sd5 from hC)
 have Y := Aside0.mk (CA.out.first hu _ HAD.out.1.1 HAD.out.1.2.1 HAD.out.1.2.2 HAD.out.2.1 HAD.out.2.2.2)
 have HB2 := Aside0.mk (upto_step HB.out (Nat.le_refl _) hu HD.out.1 HD.out.2)
 clear hC hu HB CA CD
 have CD := X
 have CA := Y
 clear X Y
 go_wp2_with fail
 refine (read_at CA.out sc3_ok 40960 (by decide)).mono ?_
 rintro e' w15 ⟨rfl, hb⟩
 rw [sc_reads.2.1]
 have X := Aside0.mk (CA.out.below hb)
 have Y := Aside0.mk (CD.out.below hb)
 have HB := Aside0.mk (below_step HB2.out hb)
 clear hb HB2 CA CD
 have CA := X
 have CD := Y
 clear X Y
 go_wp2_with fail
 refine (read_at CA.out sc3_ok 336 (by decide)).mono ?_
 rintro e' w16 ⟨rfl, hb⟩
 rw [sc_reads.2.2]
 have X := Aside0.mk (CA.out.below hb)
 have Y := Aside0.mk (CD.out.below hb)
 have HB2 := Aside0.mk (below_step HB.out hb)
 clear hb HB CA CD
 have CA := X
 have CD := Y
 clear X Y
 go_wp2_with fail
 refine (read_at CD.out sd5_ok 40960 (by decide)).mono ?_
 rintro e' w17 ⟨rfl, hb⟩
 rw [sd_reads.2]
 have X := Aside0.mk (CA.out.below hb)
 have Y := Aside0.mk (CD.out.below hb)
 have HB := Aside0.mk (below_step HB2.out hb)
 clear hb HB2 CA CD
 have CA := X
 have CD := Y
 clear X Y
 go_wp2_with fail
 go_returns
 exact ⟨rfl, HB.out⟩
end Go.Proofs.Ytmjjojbedllmgaa.Hand
end
