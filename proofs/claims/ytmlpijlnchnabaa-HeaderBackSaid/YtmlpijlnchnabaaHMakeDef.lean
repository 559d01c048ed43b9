/- header.Make by hand: a row of bytes that the call itself made, and what is done to it. -/
import Derived.Test.YtmlpijlnchnabaaHHeadOk
import Derived.Lib.BufferWrite
import Derived.Laws.AppendOwn
import Derived.Laws.CopyOwn
import Derived.Laws.OwnMore
import Derived.Handy
namespace Go.Proofs.Ytmlpijlnchnabaa.Hand
open Go.RowKit
open Go.Proofs.Ytmlpijlnchnabaa.G
open Go.Proofs.YtmlpijlnchnabaaW.PrintWords Go.Proofs.YtmlpijlnchnabaaW.PrintLast Go.Proofs.YtmlpijlnchnabaaW.PrintMore
set_option linter.unusedVariables false
set_option linter.unusedSimpArgs false
/-- The row g holds the bytes L, to its end. -/
def RowL (w : World) (g : Nat) (L : List Int) : Prop := w.heap[g]? = some (.cells (L.map (Value.int .u8)).toArray 5 (0, 0))
theorem RowL.put {w : World} {g : Nat} {L : List Int} (h : RowL w g L) (i : Nat) (x : Int) : RowL (w.setCell ⟨g, i, none⟩ (.int .u8 x)) g (L.set i x) :=
  blk_put h i (.int .u8 x) (by simp [List.map_set])
theorem RowL.far {w : World} {g b : Nat} {L : List Int} (h : RowL w g L) (hb : ¬ g = b) (i : Nat) (v : Value) : RowL (w.setCell ⟨b, i, none⟩ v) g L := blk_far h hb v
theorem RowL.cell {w : World} {g : Nat} {L : List Int} (h : RowL w g L) (i : Nat) (hi : i < L.length) : w.cell? ⟨g, i, none⟩ = some (.int .u8 (rd L i)) := by
  have q := blk_cell h i
  rw [q]
  simp [rd, hi]
theorem RowL.frozen {w : World} {g : Nat} {L : List Int} (h : RowL w g L) (i : Nat) : w.frozen? ⟨g, i, none⟩ = false := blk_frozen h i
theorem RowL.lt {w : World} {g : Nat} {L : List Int} (h : RowL w g L) : g < w.heap.size := blk_lt h
theorem RowL.reads {w : World} {g : Nat} {L : List Int} (h : RowL w g L) (n : Nat) (hn : n ≤ L.length) (hm : n ≤ 9223372036854775807) : Kd.C (Kd.int .u8) w (some ⟨g, 0, none⟩) n (L.take n) := by
  refine Kd.C_of_reads (d := (0 : Int)) ⟨by simp; omega, hm, fun h0 => ⟨_, rfl, fun j hj => ?_⟩⟩
  have q := h.cell j (by omega)
  have e : (L.take n).getD j 0 = rd L j := by simp [rd, List.getD_eq_getElem?_getD, List.getElem?_take, hj]
  rw [e]
  have e2 : (⟨g, 0, none⟩ : Addr).add j = ⟨g, j, none⟩ := by
    simp only [Addr.add]
    split
    · rename_i hz; rw [hz]
    · simp
  rw [e2]
  exact q
theorem RowL.row {w : World} {g base : Nat} {L : List Int} (h : RowL w g L) (hb : base ≤ g) (hm : L.length ≤ maxLen) : Kd.R (Kd.int .u8) 5 w base (fun _ => True) (.slice (some ⟨g, 0, none⟩) L.length L.length) L := by
  refine Kd.R_of_own ⟨by simp [encs], Or.inr ⟨g, L.length, _, rfl, hb, h, Nat.le_refl _, hm, by simp, ?_⟩⟩ (fun _ _ => trivial)
  simp only [encs]
  exact List.take_of_length_le (by simp)
theorem bytes_cells (s : ByteArray) : Lib.byteCells s.data.toList = (bytesOf s).map (Value.int .u8) := by
  simp [Lib.byteCells, bytesOf]
/-- An append whose run is known. -/
theorem wpList_append_run {P : Program} {w w' : World} {ops : Array Oper} {rest : List Oper} {o : Oper} {a : Act} {Q : Exit → Act → World → Prop} (hgd : o.guard = none) (s x : Operand) (t : TypeId)
    (ho : o.op = .call { callee := .builtin .append, args := #[s, x], argTypes := #[t, t] }) (sv xv r : Value) (hs : a.eval s = sv) (hx : a.eval x = xv)
    (hrun : ∀ ty : TypeId, (Builtin.append_ #[t, t] ty #[sv, xv]).run P w = .ok r w') (h : wpList P ops Q rest (a.put o.dst r) w') : wpList P ops Q (o :: rest) a w := by
  refine wpList_plain hgd fun K hK => ?_
  have q := hrun o.type
  unfold Oper.wp
  simp [execOp, ho, resolve, invoke, builtin, hs, hx, q, Result.andThen]
  exact hK _ _ h
/-- The row that is made. -/
theorem makeRow (w : World) (n : Nat) (hn : (n : Int) ≤ 8388272) :
    ∃ w', (Instr.makeSlice 22 (.int .i64 336) (.int .i64 (336 + (n : Int)))).run Try.prog w = .ok (.slice (some ⟨w.heap.size, 0, none⟩) 336 (336 + n)) w' ∧ RowL w' w.heap.size (List.replicate (336 + n) 0) ∧ (∀ (k : Nat) (cs : Array Value) (t : TypeId), w.heap[k]? = some (.cells cs t (0, 0)) → w'.heap[k]? = some (.cells cs t (0, 0))) ∧ (∀ w0 : World, Below w0.heap.size w0 w → Below w0.heap.size w0 w') := by
  obtain ⟨i, hi, hz0, hz1, hz2⟩ := info_parts info5
  have q := run_make (P := Try.prog) w 22 5 i (.int .u8 0) Try.underlying22 hi hz0 .i64 .i64 336 (336 + (n : Int)) (by omega) (by omega) (by rw [hz2]; omega) (by omega)
  rw [show ((336 : Int)).toNat = 336 from rfl, show (336 + (n : Int)).toNat = 336 + n by omega, hz1, Nat.mul_one] at q
  refine ⟨_, q, ?_, fun k cs t hk => blk_alloc hk _, fun w0 hb => below_alloc hb _⟩
  · have e : madeCells (Value.int .u8 0).cells (336 + n) = ((List.replicate (336 + n) (0 : Int)).map (Value.int .u8)).toArray := by
      apply Array.toList_inj.mp
      rw [show (Value.int .u8 0).cells = #[Value.int .u8 0] from rfl, toList_madeCells_one]
      simp
    rw [e]
    exact heap_alloc_new w _
/-- A string laid over the row. -/
theorem RowL.copyStr {w : World} {g : Nat} {L : List Int} (h : RowL w g L) (o n : Nat) (s : ByteArray) (hle : s.size ≤ n) (hfit : o + s.size ≤ L.length) :
    ∃ w', (∀ (cap : Nat) (ty : TypeId), (Builtin.copy_ #[22, 9] ty #[.slice (some ⟨g, o, none⟩) n cap, .string s]).run Try.prog w = .ok (.int .i64 s.size) w') ∧ RowL w' g (splice L o (bytesOf s)) ∧ (∀ k : Nat, k ≠ g → w'.heap[k]? = w.heap[k]?) ∧ (∀ (B : Nat) (w0 : World), B ≤ g → Below B w0 w → Below B w0 w') := by
  have q := fun (cap : Nat) (ty : TypeId) => Lib.run_copy_row_string (P := Try.prog) w 22 9 ty 5 g o n cap s (L.map (Value.int .u8)).toArray 5 Try.underlying22 (by kernel_rfl) h hle (by simpa using hfit)
  refine ⟨_, q, ?_, fun k hk => setRow_other w g k _ hk, fun B w0 hB hb => below_setRow hb hB _⟩
  refine (setRow_heap w g _ _ 5 (0, 0) h).trans ?_
  rw [bytes_cells]
  simp [splice, bytesOf_length, List.map_take, List.map_drop]
/-- Bytes laid behind those that are there, where the row has room. -/
theorem RowL.append {w : World} {g : Nat} {L : List Int} (h : RowL w g L) (n cap : Nat) (A : Option Addr) (c : Nat) (l : List Int) (hr : Kd.C (Kd.int .u8) w A l.length l) (hcap : n + l.length ≤ cap) (hfit : n + l.length ≤ L.length) :
    ∃ w', (∀ ty : TypeId, (Builtin.append_ #[22, 22] ty #[.slice (some ⟨g, 0, none⟩) n cap, .slice A l.length c]).run Try.prog w = .ok (.slice (some ⟨g, 0, none⟩) (n + l.length) cap) w') ∧ RowL w' g (splice L n l) ∧ (∀ k : Nat, k ≠ g → w'.heap[k]? = w.heap[k]?) ∧ (∀ (B : Nat) (w0 : World), B ≤ g → Below B w0 w → Below B w0 w') := by
  have hi := info5
  obtain ⟨i, hi, hz0, hz1, hz2⟩ := info_parts hi
  by_cases h0 : l.length = 0
  · have e : l = [] := List.eq_nil_of_length_eq_zero h0
    subst e
    refine ⟨w, fun ty => ?_, by simpa [splice] using h, fun _ _ => rfl, fun _ _ _ hb => hb⟩
    have hn : n ≤ cap := by simpa using hcap
    cases A <;> simp [Builtin.append_, run_underlying Try.underlying22, sizeOf, typeInfo, hi, Builtin.lenOf, Builtin.firstCells, hn, storeCells, loadCells, loadCellsFrom]
  · obtain ⟨ad, rfl, _⟩ := Kd.at_int hr 0 (by omega) (by omega)
    have hnews : ∀ j u, (l.map (Value.int .u8))[j]? = some u → w.cell? (ad.add j) = some u := by
      intro j u hj
      obtain ⟨hl, hp⟩ := List.getElem?_eq_some_iff.1 hj
      have hl' : j < l.length := by simpa using hl
      obtain ⟨ad', e, hc⟩ := Kd.at_int hr (j : Int) (by omega) (by omega)
      cases e
      rw [Int.toNat_natCast] at hc
      rw [hc, ← hp]
      simp [rd, hl']
    have q := fun ty : TypeId => run_append_room (P := Try.prog) w 22 ty 5 i Try.underlying22 hi g n cap (L.map (Value.int .u8)).toArray h ad l.length c (l.map (Value.int .u8)) (by rw [hz1]; simp) hnews (by intro u hu; simp at hu; obtain ⟨x, _, rfl⟩ := hu; rfl) hcap (by rw [hz1]; simpa using hfit)
    refine ⟨_, q, ?_, fun k hk => setRow_other w g k _ hk, fun B w0 hB hb => below_setRow hb hB _⟩
    refine (setRow_heap w g _ _ 5 (0, 0) h).trans ?_
    rw [hz1]
    simp [splice, List.map_take, List.map_drop]
end Go.Proofs.Ytmlpijlnchnabaa.Hand
