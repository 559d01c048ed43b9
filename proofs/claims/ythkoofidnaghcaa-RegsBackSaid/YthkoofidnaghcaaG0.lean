/- Written by a program of this session, after the kit's print: Go functions as Lean functions, each with the proof that the Go text comes to it. -/
import Derived.Test.YthkoofidnaghcaaProg
import Derived.Below
import Derived.Deep.Draws
import Derived.Deep.AppendLies
import Derived.Maps.AppendAt
import Derived.OwnWalk
import Derived.Laws.BytesArg
import Derived.Laws.MakeOwn
import Derived.Laws.OwnMore
import Derived.Deep.OwnRows
import Derived.Tactics
import Derived.Lib.ConvBytes
import Derived.Laws.Slices
import Derived.WalkKit
import Derived.KernelRfl
import Derived.RowKit3
import Derived.Deep.LoopGhost
import Derived.Deep.QuietTactic
import Derived.BigQuiet
import Derived.WideLaws
import Derived.Deep.DeepCutAuto
import Derived.Deep.CutBlock
import Derived.Deep.RegionHeld3
import Derived.Laws.Rows
import Derived.Lib.AppendStr
import Derived.ArgAppend
import Derived.Laws.IdiomCopy
import Derived.OrdersHeld
import Derived.Laws.BitsLemmas
import Derived.RowKit
import Derived.Test.YthkoofidnaghcaaWWords
import Derived.Test.YthkoofidnaghcaaWLast
import Derived.Test.YthkoofidnaghcaaWTab
import Derived.Test.YthkoofidnaghcaaWQPut
import Derived.Test.YthkoofidnaghcaaWApart
import Derived.Test.YthkoofidnaghcaaWArr
import Derived.Test.YthkoofidnaghcaaWZeros
import Derived.Test.YthkoofidnaghcaaWFoot
import Derived.Test.YthkoofidnaghcaaWKept
import Derived.Test.YthkoofidnaghcaaWShare
import Derived.Test.YthkoofidnaghcaaWN
import Derived.Test.YthkoofidnaghcaaWEqStruct
import Derived.Test.YthkoofidnaghcaaWRepsOne
import Derived.Test.YthkoofidnaghcaaWNEv
import Derived.Test.YthkoofidnaghcaaWMore
namespace Go.Proofs.Ythkoofidnaghcaa.G
open Go.RowKit Go.Proofs.YthkoofidnaghcaaW.PrintWords Go.Proofs.YthkoofidnaghcaaW.PrintLast Go.Proofs.YthkoofidnaghcaaW.PrintMore
attribute [local go_sem] max2_int min2_int max_two min_two max_three min_three max_four min_four   -- for this text's walks alone
set_option linter.unusedVariables false
set_option linter.unusedSimpArgs false



def errW : Option Int → Value
  | none => .nilIface
  | some c => .iface 0 (.int .i64 c)
theorem errW_none : errW none = .nilIface := rfl
theorem errW_some (c : Int) : errW (some c) = .iface 0 (.int .i64 c) := rfl

theorem info5 : (Try.prog.info? 5).map (fun i => (i.zero, i.size, i.bytes)) = some (some (.int .u8 0), 1, 1) := by kernel_rfl
-- the values' own types
/-! #### struct type 24 -/
structure S24 where
  f0 : Int
  f1 : Int
  f2 : Int
  f3 : Int
  f4 : Int
  f5 : Int
  f6 : Int
  f7 : Int
  f8 : Int
  f9 : Int
def z24 : S24 := ⟨(0 : Int), (0 : Int), (0 : Int), (0 : Int), (0 : Int), (0 : Int), (0 : Int), (0 : Int), (0 : Int), (0 : Int)⟩
def k24 : Kd S24 := Kd.iso (Kd.pair (Kd.int .u8) (Kd.pair (Kd.int .u8) (Kd.pair (Kd.int .u8) (Kd.pair (Kd.int .u8) (Kd.pair (Kd.int .u8) (Kd.pair (Kd.int .u8) (Kd.pair (Kd.int .u8) (Kd.pair (Kd.int .u8) (Kd.pair (Kd.int .u16) (Kd.int .u16)))))))))) (fun x : S24 => (x.f0, x.f1, x.f2, x.f3, x.f4, x.f5, x.f6, x.f7, x.f8, x.f9))
theorem k24_open {w : World} {x : S24} {cs : List Value} (h : k24.K w x cs) : cs = [.int .u8 x.f0, .int .u8 x.f1, .int .u8 x.f2, .int .u8 x.f3, .int .u8 x.f4, .int .u8 x.f5, .int .u8 x.f6, .int .u8 x.f7, .int .u16 x.f8, .int .u16 x.f9] := by
  obtain ⟨_, _, rfl, rfl, ⟨_, _, rfl, rfl, ⟨_, _, rfl, rfl, ⟨_, _, rfl, rfl, ⟨_, _, rfl, rfl, ⟨_, _, rfl, rfl, ⟨_, _, rfl, rfl, ⟨_, _, rfl, rfl, ⟨_, _, rfl, rfl, rfl⟩⟩⟩⟩⟩⟩⟩⟩⟩ := h
  exact rfl
theorem k24_openM {w : World} {base : Nat} {ok : Nat → Prop} {x : S24} {cs : List Value} (h : k24.M w base ok x cs) : cs = [.int .u8 x.f0, .int .u8 x.f1, .int .u8 x.f2, .int .u8 x.f3, .int .u8 x.f4, .int .u8 x.f5, .int .u8 x.f6, .int .u8 x.f7, .int .u16 x.f8, .int .u16 x.f9] := by
  obtain ⟨_, _, rfl, rfl, ⟨_, _, rfl, rfl, ⟨_, _, rfl, rfl, ⟨_, _, rfl, rfl, ⟨_, _, rfl, rfl, ⟨_, _, rfl, rfl, ⟨_, _, rfl, rfl, ⟨_, _, rfl, rfl, ⟨_, _, rfl, rfl, rfl⟩⟩⟩⟩⟩⟩⟩⟩⟩ := h
  exact rfl
theorem k24_mk (w : World) (x : S24)  : k24.K w x [.int .u8 x.f0, .int .u8 x.f1, .int .u8 x.f2, .int .u8 x.f3, .int .u8 x.f4, .int .u8 x.f5, .int .u8 x.f6, .int .u8 x.f7, .int .u16 x.f8, .int .u16 x.f9] := ⟨[.int .u8 x.f0], [.int .u8 x.f1, .int .u8 x.f2, .int .u8 x.f3, .int .u8 x.f4, .int .u8 x.f5, .int .u8 x.f6, .int .u8 x.f7, .int .u16 x.f8, .int .u16 x.f9], rfl, rfl, ⟨[.int .u8 x.f1], [.int .u8 x.f2, .int .u8 x.f3, .int .u8 x.f4, .int .u8 x.f5, .int .u8 x.f6, .int .u8 x.f7, .int .u16 x.f8, .int .u16 x.f9], rfl, rfl, ⟨[.int .u8 x.f2], [.int .u8 x.f3, .int .u8 x.f4, .int .u8 x.f5, .int .u8 x.f6, .int .u8 x.f7, .int .u16 x.f8, .int .u16 x.f9], rfl, rfl, ⟨[.int .u8 x.f3], [.int .u8 x.f4, .int .u8 x.f5, .int .u8 x.f6, .int .u8 x.f7, .int .u16 x.f8, .int .u16 x.f9], rfl, rfl, ⟨[.int .u8 x.f4], [.int .u8 x.f5, .int .u8 x.f6, .int .u8 x.f7, .int .u16 x.f8, .int .u16 x.f9], rfl, rfl, ⟨[.int .u8 x.f5], [.int .u8 x.f6, .int .u8 x.f7, .int .u16 x.f8, .int .u16 x.f9], rfl, rfl, ⟨[.int .u8 x.f6], [.int .u8 x.f7, .int .u16 x.f8, .int .u16 x.f9], rfl, rfl, ⟨[.int .u8 x.f7], [.int .u16 x.f8, .int .u16 x.f9], rfl, rfl, ⟨[.int .u16 x.f8], [.int .u16 x.f9], rfl, rfl, rfl⟩⟩⟩⟩⟩⟩⟩⟩⟩
theorem k24_mkM (w : World) (base : Nat) (ok : Nat → Prop) (x : S24)  : k24.M w base ok x [.int .u8 x.f0, .int .u8 x.f1, .int .u8 x.f2, .int .u8 x.f3, .int .u8 x.f4, .int .u8 x.f5, .int .u8 x.f6, .int .u8 x.f7, .int .u16 x.f8, .int .u16 x.f9] := ⟨[.int .u8 x.f0], [.int .u8 x.f1, .int .u8 x.f2, .int .u8 x.f3, .int .u8 x.f4, .int .u8 x.f5, .int .u8 x.f6, .int .u8 x.f7, .int .u16 x.f8, .int .u16 x.f9], rfl, rfl, ⟨[.int .u8 x.f1], [.int .u8 x.f2, .int .u8 x.f3, .int .u8 x.f4, .int .u8 x.f5, .int .u8 x.f6, .int .u8 x.f7, .int .u16 x.f8, .int .u16 x.f9], rfl, rfl, ⟨[.int .u8 x.f2], [.int .u8 x.f3, .int .u8 x.f4, .int .u8 x.f5, .int .u8 x.f6, .int .u8 x.f7, .int .u16 x.f8, .int .u16 x.f9], rfl, rfl, ⟨[.int .u8 x.f3], [.int .u8 x.f4, .int .u8 x.f5, .int .u8 x.f6, .int .u8 x.f7, .int .u16 x.f8, .int .u16 x.f9], rfl, rfl, ⟨[.int .u8 x.f4], [.int .u8 x.f5, .int .u8 x.f6, .int .u8 x.f7, .int .u16 x.f8, .int .u16 x.f9], rfl, rfl, ⟨[.int .u8 x.f5], [.int .u8 x.f6, .int .u8 x.f7, .int .u16 x.f8, .int .u16 x.f9], rfl, rfl, ⟨[.int .u8 x.f6], [.int .u8 x.f7, .int .u16 x.f8, .int .u16 x.f9], rfl, rfl, ⟨[.int .u8 x.f7], [.int .u16 x.f8, .int .u16 x.f9], rfl, rfl, ⟨[.int .u16 x.f8], [.int .u16 x.f9], rfl, rfl, rfl⟩⟩⟩⟩⟩⟩⟩⟩⟩
def rd_T24 (xs : List S24) (i : Int) : S24 := xs.getD i.toNat z24
theorem at_T24 {w : World} {A : Option Addr} {n : Nat} {xs : List S24} (h : Kd.C k24 w A n xs) (i : Int) (h0 : 0 ≤ i) (h1 : i < n) : ∃ ad , A = some ad ∧ w.cell? (ad.add (i.toNat * 10)) = some (.int .u8 (rd_T24 xs i).f0) ∧ w.cell? ⟨(ad.add (i.toNat * 10)).block, (ad.add (i.toNat * 10)).off + 1, none⟩ = some (.int .u8 (rd_T24 xs i).f1) ∧ w.cell? ⟨(ad.add (i.toNat * 10)).block, (ad.add (i.toNat * 10)).off + 2, none⟩ = some (.int .u8 (rd_T24 xs i).f2) ∧ w.cell? ⟨(ad.add (i.toNat * 10)).block, (ad.add (i.toNat * 10)).off + 3, none⟩ = some (.int .u8 (rd_T24 xs i).f3) ∧ w.cell? ⟨(ad.add (i.toNat * 10)).block, (ad.add (i.toNat * 10)).off + 4, none⟩ = some (.int .u8 (rd_T24 xs i).f4) ∧ w.cell? ⟨(ad.add (i.toNat * 10)).block, (ad.add (i.toNat * 10)).off + 5, none⟩ = some (.int .u8 (rd_T24 xs i).f5) ∧ w.cell? ⟨(ad.add (i.toNat * 10)).block, (ad.add (i.toNat * 10)).off + 6, none⟩ = some (.int .u8 (rd_T24 xs i).f6) ∧ w.cell? ⟨(ad.add (i.toNat * 10)).block, (ad.add (i.toNat * 10)).off + 7, none⟩ = some (.int .u8 (rd_T24 xs i).f7) ∧ w.cell? ⟨(ad.add (i.toNat * 10)).block, (ad.add (i.toNat * 10)).off + 8, none⟩ = some (.int .u16 (rd_T24 xs i).f8) ∧ w.cell? ⟨(ad.add (i.toNat * 10)).block, (ad.add (i.toNat * 10)).off + 9, none⟩ = some (.int .u16 (rd_T24 xs i).f9) := by
  obtain ⟨ad, c, e, _, hK, hc0⟩ := Kd.C_get h z24 i h0 h1
  have hc : ∀ j u, c[j]? = some u → w.cell? (ad.add (i.toNat * 10 + j)) = some u := hc0
  obtain rfl := k24_open hK
  exact ⟨ad, e, hc 0 _ rfl, by rw [← add_field _ _ 1 (by omega)]; exact hc 1 _ rfl, by rw [← add_field _ _ 2 (by omega)]; exact hc 2 _ rfl, by rw [← add_field _ _ 3 (by omega)]; exact hc 3 _ rfl, by rw [← add_field _ _ 4 (by omega)]; exact hc 4 _ rfl, by rw [← add_field _ _ 5 (by omega)]; exact hc 5 _ rfl, by rw [← add_field _ _ 6 (by omega)]; exact hc 6 _ rfl, by rw [← add_field _ _ 7 (by omega)]; exact hc 7 _ rfl, by rw [← add_field _ _ 8 (by omega)]; exact hc 8 _ rfl, by rw [← add_field _ _ 9 (by omega)]; exact hc 9 _ rfl⟩

/-! #### struct type 44 -/
structure S44 where
  f0 : Bool
  f1 : Bool
  f2 : Bool
  f3 : Bool
def z44 : S44 := ⟨false, false, false, false⟩
def k44 : Kd S44 := Kd.iso (Kd.pair Kd.bool (Kd.pair Kd.bool (Kd.pair Kd.bool Kd.bool))) (fun x : S44 => (x.f0, x.f1, x.f2, x.f3))
theorem k44_open {w : World} {x : S44} {cs : List Value} (h : k44.K w x cs) : cs = [.bool x.f0, .bool x.f1, .bool x.f2, .bool x.f3] := by
  obtain ⟨_, _, rfl, rfl, ⟨_, _, rfl, rfl, ⟨_, _, rfl, rfl, rfl⟩⟩⟩ := h
  exact rfl
theorem k44_openM {w : World} {base : Nat} {ok : Nat → Prop} {x : S44} {cs : List Value} (h : k44.M w base ok x cs) : cs = [.bool x.f0, .bool x.f1, .bool x.f2, .bool x.f3] := by
  obtain ⟨_, _, rfl, rfl, ⟨_, _, rfl, rfl, ⟨_, _, rfl, rfl, rfl⟩⟩⟩ := h
  exact rfl
theorem k44_mk (w : World) (x : S44)  : k44.K w x [.bool x.f0, .bool x.f1, .bool x.f2, .bool x.f3] := ⟨[.bool x.f0], [.bool x.f1, .bool x.f2, .bool x.f3], rfl, rfl, ⟨[.bool x.f1], [.bool x.f2, .bool x.f3], rfl, rfl, ⟨[.bool x.f2], [.bool x.f3], rfl, rfl, rfl⟩⟩⟩
theorem k44_mkM (w : World) (base : Nat) (ok : Nat → Prop) (x : S44)  : k44.M w base ok x [.bool x.f0, .bool x.f1, .bool x.f2, .bool x.f3] := ⟨[.bool x.f0], [.bool x.f1, .bool x.f2, .bool x.f3], rfl, rfl, ⟨[.bool x.f1], [.bool x.f2, .bool x.f3], rfl, rfl, ⟨[.bool x.f2], [.bool x.f3], rfl, rfl, rfl⟩⟩⟩
def rd_T44 (xs : List S44) (i : Int) : S44 := xs.getD i.toNat z44
theorem at_T44 {w : World} {A : Option Addr} {n : Nat} {xs : List S44} (h : Kd.C k44 w A n xs) (i : Int) (h0 : 0 ≤ i) (h1 : i < n) : ∃ ad , A = some ad ∧ w.cell? (ad.add (i.toNat * 4)) = some (.bool (rd_T44 xs i).f0) ∧ w.cell? ⟨(ad.add (i.toNat * 4)).block, (ad.add (i.toNat * 4)).off + 1, none⟩ = some (.bool (rd_T44 xs i).f1) ∧ w.cell? ⟨(ad.add (i.toNat * 4)).block, (ad.add (i.toNat * 4)).off + 2, none⟩ = some (.bool (rd_T44 xs i).f2) ∧ w.cell? ⟨(ad.add (i.toNat * 4)).block, (ad.add (i.toNat * 4)).off + 3, none⟩ = some (.bool (rd_T44 xs i).f3) := by
  obtain ⟨ad, c, e, _, hK, hc0⟩ := Kd.C_get h z44 i h0 h1
  have hc : ∀ j u, c[j]? = some u → w.cell? (ad.add (i.toNat * 4 + j)) = some u := hc0
  obtain rfl := k44_open hK
  exact ⟨ad, e, hc 0 _ rfl, by rw [← add_field _ _ 1 (by omega)]; exact hc 1 _ rfl, by rw [← add_field _ _ 2 (by omega)]; exact hc 2 _ rfl, by rw [← add_field _ _ 3 (by omega)]; exact hc 3 _ rfl⟩

end Go.Proofs.Ythkoofidnaghcaa.G
