/- clock.Of by hand: two clocks taken up out of ten bytes. -/
import Derived.Test.YtkfjofkocccefaaHWrite
import Derived.Test.YtkfjofkocccefaaHBytes
import Derived.Test.YtkfjofkocccefaaHOfOk
import Derived.Test.YtkfjofkocccefaaHOfNo
import Derived.Deep.MidRow
import Derived.Deep.RegionHeld2
import Derived.Deep.RegionHeld3
import Derived.Deep.RegionWith
import Derived.Handy
namespace Go.Proofs.Ytkfjofkocccefaa.Hand
open Go.RowKit
open Go.Proofs.Ytkfjofkocccefaa.G
open Go.Proofs.YtkfjofkocccefaaW.PrintWords Go.Proofs.YtkfjofkocccefaaW.PrintLast Go.Proofs.YtkfjofkocccefaaW.PrintMore
set_option linter.unusedVariables false
set_option linter.unusedSimpArgs false
set_option maxRecDepth 100000 in
set_option maxHeartbeats 4000000 in
theorem of_len (A : Option Addr) (c : Nat) (l : List Int) (hl : ¬ (l.length : Int) = 10) (w : World) :
    Calls Try.prog 25 #[.slice A l.length c] w fun e' w' => e' = .returned (.tuple #[.agg #[.int .u8 0, .int .u8 0, .int .u8 0, .int .u16 0, .bool false, .bool false], .agg #[.int .u8 0, .int .u8 0, .int .u8 0, .int .u16 0, .bool false, .bool false], .int .i64 5]) ∧ Below w.heap.size w w' := by
  go_enter Try.func25, Try.ntmps25
  go_wp2
  refine bodyPost_ret (v := .tuple #[.agg #[.int .u8 0, .int .u8 0, .int .u8 0, .int .u16 0, .bool false, .bool false], .agg #[.int .u8 0, .int .u8 0, .int .u8 0, .int .u16 0, .bool false, .bool false], .int .i64 5]) (by simp [results, Try.results25, go_sem]) rfl ⟨rfl, by go_grown⟩
def clock_Of.f (l : List Int) : Option (Int × Int × Int × Int × Bool × Bool × Int × Int × Int × Int × Bool × Bool × Int) :=
  if (l.length : Int) = 10 then ((clock_Write.f 0 0 0 0 false false 8 (rd l 0)).bind fun r0 => (clock_Write.f r0.1 r0.2.1 r0.2.2.1 r0.2.2.2.1 r0.2.2.2.2.1 r0.2.2.2.2.2.1 9 (rd l 1)).bind fun r1 => (clock_Write.f r1.1 r1.2.1 r1.2.2.1 r1.2.2.2.1 r1.2.2.2.2.1 r1.2.2.2.2.2.1 10 (rd l 2)).bind fun r2 => (clock_Write.f r2.1 r2.2.1 r2.2.2.1 r2.2.2.2.1 r2.2.2.2.2.1 r2.2.2.2.2.2.1 11 (rd l 3)).bind fun r3 => (clock_Write.f r3.1 r3.2.1 r3.2.2.1 r3.2.2.2.1 r3.2.2.2.2.1 r3.2.2.2.2.2.1 12 (rd l 4)).bind fun r4 => (clock_Write.f 0 0 0 0 false false 8 (rd l 5)).bind fun r5 => (clock_Write.f r5.1 r5.2.1 r5.2.2.1 r5.2.2.2.1 r5.2.2.2.2.1 r5.2.2.2.2.2.1 9 (rd l 6)).bind fun r6 => (clock_Write.f r6.1 r6.2.1 r6.2.2.1 r6.2.2.2.1 r6.2.2.2.2.1 r6.2.2.2.2.2.1 10 (rd l 7)).bind fun r7 => (clock_Write.f r7.1 r7.2.1 r7.2.2.1 r7.2.2.2.1 r7.2.2.2.2.1 r7.2.2.2.2.2.1 11 (rd l 8)).bind fun r8 => (clock_Write.f r8.1 r8.2.1 r8.2.2.1 r8.2.2.2.1 r8.2.2.2.2.1 r8.2.2.2.2.2.1 12 (rd l 9)).bind fun r9 => (clock_Bytes.f r4.1 r4.2.1 r4.2.2.1 r4.2.2.2.1 r4.2.2.2.2.1 r4.2.2.2.2.2.1 r9.1 r9.2.1 r9.2.2.1 r9.2.2.2.1 r9.2.2.2.2.1 r9.2.2.2.2.2.1).bind fun r => if ((strOfNums r).toList == (strOfNums l).toList) = true then some (r4.1, r4.2.1, r4.2.2.1, r4.2.2.2.1, r4.2.2.2.2.1, r4.2.2.2.2.2.1, r9.1, r9.2.1, r9.2.2.1, r9.2.2.2.1, r9.2.2.2.2.1, r9.2.2.2.2.2.1, 0) else some (0, 0, 0, 0, false, false, 0, 0, 0, 0, false, false, 6))
  else some (0, 0, 0, 0, false, false, 0, 0, 0, 0, false, false, 5)
theorem clock_Of.calls (A0 : Option Addr) (c0 : Nat) (l0 : List Int) (r1 : Int) (r2 : Int) (r3 : Int) (r4 : Int) (r5 : Bool) (r6 : Bool) (r7 : Int) (r8 : Int) (r9 : Int) (r10 : Int) (r11 : Bool) (r12 : Bool) (r13 : Int) (w : World) (hr0 : Kd.C (Kd.int .u8) w A0 l0.length l0) (hc0 : l0.length ≤ c0) (h : clock_Of.f l0 = some (r1, r2, r3, r4, r5, r6, r7, r8, r9, r10, r11, r12, r13)) :
    Calls Try.prog 25 #[.slice A0 l0.length c0] w fun e w' => e = .returned (.tuple #[.agg #[.int .u8 r1, .int .u8 r2, .int .u8 r3, .int .u16 r4, .bool r5, .bool r6], .agg #[.int .u8 r7, .int .u8 r8, .int .u8 r9, .int .u16 r10, .bool r11, .bool r12], .int .i64 r13]) ∧ Below w.heap.size w w' := by
  unfold clock_Of.f at h
  by_cases hl : (l0.length : Int) = 10
  case neg =>
    rw [if_neg hl] at h
    cases h
    exact of_len A0 c0 l0 hl w
  rw [if_pos hl] at h
  obtain ⟨⟨x0_1, x0_2, x0_3, x0_4, x0_5, x0_6, e0⟩, h0, h⟩ := Option.bind_eq_some_iff.mp h
  obtain ⟨⟨x1_1, x1_2, x1_3, x1_4, x1_5, x1_6, e1⟩, h1, h⟩ := Option.bind_eq_some_iff.mp h
  obtain ⟨⟨x2_1, x2_2, x2_3, x2_4, x2_5, x2_6, e2⟩, h2, h⟩ := Option.bind_eq_some_iff.mp h
  obtain ⟨⟨x3_1, x3_2, x3_3, x3_4, x3_5, x3_6, e3⟩, h3, h⟩ := Option.bind_eq_some_iff.mp h
  obtain ⟨⟨x4_1, x4_2, x4_3, x4_4, x4_5, x4_6, e4⟩, h4, h⟩ := Option.bind_eq_some_iff.mp h
  obtain ⟨⟨x5_1, x5_2, x5_3, x5_4, x5_5, x5_6, e5⟩, h5, h⟩ := Option.bind_eq_some_iff.mp h
  obtain ⟨⟨x6_1, x6_2, x6_3, x6_4, x6_5, x6_6, e6⟩, h6, h⟩ := Option.bind_eq_some_iff.mp h
  obtain ⟨⟨x7_1, x7_2, x7_3, x7_4, x7_5, x7_6, e7⟩, h7, h⟩ := Option.bind_eq_some_iff.mp h
  obtain ⟨⟨x8_1, x8_2, x8_3, x8_4, x8_5, x8_6, e8⟩, h8, h⟩ := Option.bind_eq_some_iff.mp h
  obtain ⟨⟨x9_1, x9_2, x9_3, x9_4, x9_5, x9_6, e9⟩, h9, h⟩ := Option.bind_eq_some_iff.mp h
  obtain ⟨r, hB, h⟩ := Option.bind_eq_some_iff.mp h
  dsimp only at h h0 h1 h2 h3 h4 h5 h6 h7 h8 h9 hB
  let X : Nat → C6 := fun j => match j with | 0 => (0, 0, 0, 0, false, false) | 1 => (x0_1, x0_2, x0_3, x0_4, x0_5, x0_6) | 2 => (x1_1, x1_2, x1_3, x1_4, x1_5, x1_6) | 3 => (x2_1, x2_2, x2_3, x2_4, x2_5, x2_6) | 4 => (x3_1, x3_2, x3_3, x3_4, x3_5, x3_6) | _ => (x4_1, x4_2, x4_3, x4_4, x4_5, x4_6)
  let Y : Nat → C6 := fun j => match j with | 0 => (0, 0, 0, 0, false, false) | 1 => (x5_1, x5_2, x5_3, x5_4, x5_5, x5_6) | 2 => (x6_1, x6_2, x6_3, x6_4, x6_5, x6_6) | 3 => (x7_1, x7_2, x7_3, x7_4, x7_5, x7_6) | 4 => (x8_1, x8_2, x8_3, x8_4, x8_5, x8_6) | _ => (x9_1, x9_2, x9_3, x9_4, x9_5, x9_6)
  cases hcmp : ((strOfNums r).toList == (strOfNums l0).toList) with
  | true =>
    rw [hcmp, if_pos rfl] at h
    cases h
    exact of_ok A0 c0 l0 (by omega) X Y e0 e1 e2 e3 e4 e5 e6 e7 e8 e9 rfl rfl h0 h1 h2 h3 h4 h5 h6 h7 h8 h9 r hB w hr0 hc0 hcmp
  | false =>
    rw [hcmp, if_neg (by simp)] at h
    cases h
    exact of_no A0 c0 l0 (by omega) X Y e0 e1 e2 e3 e4 e5 e6 e7 e8 e9 rfl rfl h0 h1 h2 h3 h4 h5 h6 h7 h8 h9 r hB w hr0 hc0 hcmp
end Go.Proofs.Ytkfjofkocccefaa.Hand
