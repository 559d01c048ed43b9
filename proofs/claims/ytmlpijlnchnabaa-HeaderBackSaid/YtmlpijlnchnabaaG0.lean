/- Written by a program of this session, after the kit's print: Go functions as Lean functions, each with the proof that the Go text comes to it. -/
import Derived.Test.YtmlpijlnchnabaaProg
import Derived.Below
import Derived.Deep.Draws
import Derived.Deep.AppendLies
import Derived.Maps.AppendAt
import Derived.OwnWalk
import Derived.Laws.BytesArg
import Derived.Laws.MakeOwn
import Derived.Laws.OwnMore
import Derived.Deep.OwnRows
import Derived.Tactics
import Derived.Lib.ConvBytes
import Derived.Laws.Slices
import Derived.WalkKit
import Derived.KernelRfl
import Derived.RowKit3
import Derived.Deep.LoopGhost
import Derived.Deep.QuietTactic
import Derived.BigQuiet
import Derived.WideLaws
import Derived.Deep.DeepCutAuto
import Derived.Deep.CutBlock
import Derived.Deep.RegionHeld3
import Derived.Laws.Rows
import Derived.Lib.AppendStr
import Derived.ArgAppend
import Derived.Laws.IdiomCopy
import Derived.OrdersHeld
import Derived.Laws.BitsLemmas
import Derived.RowKit
import Derived.Test.YtmlpijlnchnabaaWWords
import Derived.Test.YtmlpijlnchnabaaWLast
import Derived.Test.YtmlpijlnchnabaaWTab
import Derived.Test.YtmlpijlnchnabaaWQPut
import Derived.Test.YtmlpijlnchnabaaWApart
import Derived.Test.YtmlpijlnchnabaaWArr
import Derived.Test.YtmlpijlnchnabaaWZeros
import Derived.Test.YtmlpijlnchnabaaWFoot
import Derived.Test.YtmlpijlnchnabaaWKept
import Derived.Test.YtmlpijlnchnabaaWShare
import Derived.Test.YtmlpijlnchnabaaWN
import Derived.Test.YtmlpijlnchnabaaWEqStruct
import Derived.Test.YtmlpijlnchnabaaWRepsOne
import Derived.Test.YtmlpijlnchnabaaWNEv
import Derived.Test.YtmlpijlnchnabaaWMore
namespace Go.Proofs.Ytmlpijlnchnabaa.G
open Go.RowKit Go.Proofs.YtmlpijlnchnabaaW.PrintWords Go.Proofs.YtmlpijlnchnabaaW.PrintLast Go.Proofs.YtmlpijlnchnabaaW.PrintMore
attribute [local go_sem] max2_int min2_int max_two min_two max_three min_three max_four min_four   -- for this text's walks alone
set_option linter.unusedVariables false
set_option linter.unusedSimpArgs false



def errW : Option Int → Value
  | none => .nilIface
  | some c => .iface 0 (.int .i64 c)
theorem errW_none : errW none = .nilIface := rfl
theorem errW_some (c : Int) : errW (some c) = .iface 0 (.int .i64 c) := rfl

theorem info3 : (Try.prog.info? 3).map (fun i => (i.zero, i.size, i.bytes)) = some (some (.int .i64 0), 1, 8) := by kernel_rfl
theorem info5 : (Try.prog.info? 5).map (fun i => (i.zero, i.size, i.bytes)) = some (some (.int .u8 0), 1, 1) := by kernel_rfl
-- the values' own types
def rd_L1 (xs : List (List Int)) (i : Int) : (List Int) := xs.getD i.toNat ([] : List Int)
theorem at_L1 {w : World} {A : Option Addr} {n : Nat} {xs : List (List Int)} (h : Kd.C (Kd.slice 5 (Kd.int .u8)) w A n xs) (i : Int) (h0 : 0 ≤ i) (h1 : i < n) : ∃ ad A0 c0, A = some ad ∧ w.cell? (ad.add i.toNat) = some (.slice A0 (rd_L1 xs i).length c0) ∧ (rd_L1 xs i).length ≤ c0 ∧ (Kd.int .u8).C w A0 (rd_L1 xs i).length (rd_L1 xs i) := by
  obtain ⟨ad, c, e, _, hK, hc0⟩ := Kd.C_get h ([] : List Int) i h0 h1
  have hc : ∀ j u, c[j]? = some u → w.cell? (ad.add (i.toNat * 1 + j)) = some u := hc0
  obtain ⟨A0, c0, rfl, l0, g0⟩ := hK
  exact ⟨ad, A0, c0, e, by have hq := hc 0 _ rfl; rwa [Nat.mul_one, Nat.add_zero] at hq, l0, g0⟩

/-! #### struct type 26 -/
structure S26 where
  f0 : ByteArray
  f1 : Int
  f2 : Int
  f3 : Bool
  f4 : Bool
  f5 : Bool
  f6 : Int
  f7 : Int
  f8 : Int
  f9 : Int
def z26 : S26 := ⟨(⟨#[]⟩ : ByteArray), (0 : Int), (0 : Int), false, false, false, (0 : Int), (0 : Int), (0 : Int), (0 : Int)⟩
def k26 : Kd S26 := Kd.iso (Kd.pair Kd.string (Kd.pair (Kd.int .u8) (Kd.pair (Kd.int .i64) (Kd.pair Kd.bool (Kd.pair Kd.bool (Kd.pair Kd.bool (Kd.pair (Kd.int .i64) (Kd.pair (Kd.int .i64) (Kd.pair (Kd.int .u8) (Kd.int .u16)))))))))) (fun x : S26 => (x.f0, x.f1, x.f2, x.f3, x.f4, x.f5, x.f6, x.f7, x.f8, x.f9))
theorem k26_open {w : World} {x : S26} {cs : List Value} (h : k26.K w x cs) : cs = [.string x.f0, .int .u8 x.f1, .int .i64 x.f2, .bool x.f3, .bool x.f4, .bool x.f5, .int .i64 x.f6, .int .i64 x.f7, .int .u8 x.f8, .int .u16 x.f9] := by
  obtain ⟨_, _, rfl, rfl, ⟨_, _, rfl, rfl, ⟨_, _, rfl, rfl, ⟨_, _, rfl, rfl, ⟨_, _, rfl, rfl, ⟨_, _, rfl, rfl, ⟨_, _, rfl, rfl, ⟨_, _, rfl, rfl, ⟨_, _, rfl, rfl, rfl⟩⟩⟩⟩⟩⟩⟩⟩⟩ := h
  exact rfl
theorem k26_openM {w : World} {base : Nat} {ok : Nat → Prop} {x : S26} {cs : List Value} (h : k26.M w base ok x cs) : cs = [.string x.f0, .int .u8 x.f1, .int .i64 x.f2, .bool x.f3, .bool x.f4, .bool x.f5, .int .i64 x.f6, .int .i64 x.f7, .int .u8 x.f8, .int .u16 x.f9] := by
  obtain ⟨_, _, rfl, rfl, ⟨_, _, rfl, rfl, ⟨_, _, rfl, rfl, ⟨_, _, rfl, rfl, ⟨_, _, rfl, rfl, ⟨_, _, rfl, rfl, ⟨_, _, rfl, rfl, ⟨_, _, rfl, rfl, ⟨_, _, rfl, rfl, rfl⟩⟩⟩⟩⟩⟩⟩⟩⟩ := h
  exact rfl
theorem k26_mk (w : World) (x : S26)  : k26.K w x [.string x.f0, .int .u8 x.f1, .int .i64 x.f2, .bool x.f3, .bool x.f4, .bool x.f5, .int .i64 x.f6, .int .i64 x.f7, .int .u8 x.f8, .int .u16 x.f9] := ⟨[.string x.f0], [.int .u8 x.f1, .int .i64 x.f2, .bool x.f3, .bool x.f4, .bool x.f5, .int .i64 x.f6, .int .i64 x.f7, .int .u8 x.f8, .int .u16 x.f9], rfl, rfl, ⟨[.int .u8 x.f1], [.int .i64 x.f2, .bool x.f3, .bool x.f4, .bool x.f5, .int .i64 x.f6, .int .i64 x.f7, .int .u8 x.f8, .int .u16 x.f9], rfl, rfl, ⟨[.int .i64 x.f2], [.bool x.f3, .bool x.f4, .bool x.f5, .int .i64 x.f6, .int .i64 x.f7, .int .u8 x.f8, .int .u16 x.f9], rfl, rfl, ⟨[.bool x.f3], [.bool x.f4, .bool x.f5, .int .i64 x.f6, .int .i64 x.f7, .int .u8 x.f8, .int .u16 x.f9], rfl, rfl, ⟨[.bool x.f4], [.bool x.f5, .int .i64 x.f6, .int .i64 x.f7, .int .u8 x.f8, .int .u16 x.f9], rfl, rfl, ⟨[.bool x.f5], [.int .i64 x.f6, .int .i64 x.f7, .int .u8 x.f8, .int .u16 x.f9], rfl, rfl, ⟨[.int .i64 x.f6], [.int .i64 x.f7, .int .u8 x.f8, .int .u16 x.f9], rfl, rfl, ⟨[.int .i64 x.f7], [.int .u8 x.f8, .int .u16 x.f9], rfl, rfl, ⟨[.int .u8 x.f8], [.int .u16 x.f9], rfl, rfl, rfl⟩⟩⟩⟩⟩⟩⟩⟩⟩
theorem k26_mkM (w : World) (base : Nat) (ok : Nat → Prop) (x : S26)  : k26.M w base ok x [.string x.f0, .int .u8 x.f1, .int .i64 x.f2, .bool x.f3, .bool x.f4, .bool x.f5, .int .i64 x.f6, .int .i64 x.f7, .int .u8 x.f8, .int .u16 x.f9] := ⟨[.string x.f0], [.int .u8 x.f1, .int .i64 x.f2, .bool x.f3, .bool x.f4, .bool x.f5, .int .i64 x.f6, .int .i64 x.f7, .int .u8 x.f8, .int .u16 x.f9], rfl, rfl, ⟨[.int .u8 x.f1], [.int .i64 x.f2, .bool x.f3, .bool x.f4, .bool x.f5, .int .i64 x.f6, .int .i64 x.f7, .int .u8 x.f8, .int .u16 x.f9], rfl, rfl, ⟨[.int .i64 x.f2], [.bool x.f3, .bool x.f4, .bool x.f5, .int .i64 x.f6, .int .i64 x.f7, .int .u8 x.f8, .int .u16 x.f9], rfl, rfl, ⟨[.bool x.f3], [.bool x.f4, .bool x.f5, .int .i64 x.f6, .int .i64 x.f7, .int .u8 x.f8, .int .u16 x.f9], rfl, rfl, ⟨[.bool x.f4], [.bool x.f5, .int .i64 x.f6, .int .i64 x.f7, .int .u8 x.f8, .int .u16 x.f9], rfl, rfl, ⟨[.bool x.f5], [.int .i64 x.f6, .int .i64 x.f7, .int .u8 x.f8, .int .u16 x.f9], rfl, rfl, ⟨[.int .i64 x.f6], [.int .i64 x.f7, .int .u8 x.f8, .int .u16 x.f9], rfl, rfl, ⟨[.int .i64 x.f7], [.int .u8 x.f8, .int .u16 x.f9], rfl, rfl, ⟨[.int .u8 x.f8], [.int .u16 x.f9], rfl, rfl, rfl⟩⟩⟩⟩⟩⟩⟩⟩⟩
def rd_T26 (xs : List S26) (i : Int) : S26 := xs.getD i.toNat z26
theorem at_T26 {w : World} {A : Option Addr} {n : Nat} {xs : List S26} (h : Kd.C k26 w A n xs) (i : Int) (h0 : 0 ≤ i) (h1 : i < n) : ∃ ad , A = some ad ∧ w.cell? (ad.add (i.toNat * 10)) = some (.string (rd_T26 xs i).f0) ∧ w.cell? ⟨(ad.add (i.toNat * 10)).block, (ad.add (i.toNat * 10)).off + 1, none⟩ = some (.int .u8 (rd_T26 xs i).f1) ∧ w.cell? ⟨(ad.add (i.toNat * 10)).block, (ad.add (i.toNat * 10)).off + 2, none⟩ = some (.int .i64 (rd_T26 xs i).f2) ∧ w.cell? ⟨(ad.add (i.toNat * 10)).block, (ad.add (i.toNat * 10)).off + 3, none⟩ = some (.bool (rd_T26 xs i).f3) ∧ w.cell? ⟨(ad.add (i.toNat * 10)).block, (ad.add (i.toNat * 10)).off + 4, none⟩ = some (.bool (rd_T26 xs i).f4) ∧ w.cell? ⟨(ad.add (i.toNat * 10)).block, (ad.add (i.toNat * 10)).off + 5, none⟩ = some (.bool (rd_T26 xs i).f5) ∧ w.cell? ⟨(ad.add (i.toNat * 10)).block, (ad.add (i.toNat * 10)).off + 6, none⟩ = some (.int .i64 (rd_T26 xs i).f6) ∧ w.cell? ⟨(ad.add (i.toNat * 10)).block, (ad.add (i.toNat * 10)).off + 7, none⟩ = some (.int .i64 (rd_T26 xs i).f7) ∧ w.cell? ⟨(ad.add (i.toNat * 10)).block, (ad.add (i.toNat * 10)).off + 8, none⟩ = some (.int .u8 (rd_T26 xs i).f8) ∧ w.cell? ⟨(ad.add (i.toNat * 10)).block, (ad.add (i.toNat * 10)).off + 9, none⟩ = some (.int .u16 (rd_T26 xs i).f9) := by
  obtain ⟨ad, c, e, _, hK, hc0⟩ := Kd.C_get h z26 i h0 h1
  have hc : ∀ j u, c[j]? = some u → w.cell? (ad.add (i.toNat * 10 + j)) = some u := hc0
  obtain rfl := k26_open hK
  exact ⟨ad, e, hc 0 _ rfl, by rw [← add_field _ _ 1 (by omega)]; exact hc 1 _ rfl, by rw [← add_field _ _ 2 (by omega)]; exact hc 2 _ rfl, by rw [← add_field _ _ 3 (by omega)]; exact hc 3 _ rfl, by rw [← add_field _ _ 4 (by omega)]; exact hc 4 _ rfl, by rw [← add_field _ _ 5 (by omega)]; exact hc 5 _ rfl, by rw [← add_field _ _ 6 (by omega)]; exact hc 6 _ rfl, by rw [← add_field _ _ 7 (by omega)]; exact hc 7 _ rfl, by rw [← add_field _ _ 8 (by omega)]; exact hc 8 _ rfl, by rw [← add_field _ _ 9 (by omega)]; exact hc 9 _ rfl⟩

end Go.Proofs.Ytmlpijlnchnabaa.G
