/- AluBack by hand: its contract, both ways of the carry. -/
import Derived.Test.YtdfpaebbejdjlaaHBacktrue
import Derived.Test.YtdfpaebbejdjlaaHBackfalse
namespace Go.Proofs.Ytdfpaebbejdjlaa.Hand
open Go.RowKit
set_option linter.unusedVariables false
open Go.Proofs.Ytdfpaebbejdjlaa.G
def backOk (k : Nat) (a v : Int) (z n h c : Bool) (r1 r2 r3 r4 r5 r6 r7 : Int × Bool × Bool × Bool × Bool) (y : Int) (o : Bool × Bool × Bool × Bool) : Bool :=
  r1.2.1 == (r1.1 == 0) && (r2.1 == a && (r3.1 == (if c = true then (v + 1) % 256 else v) && (r5.1 == a && (r5.2.2.2.2 == c && (r7.2.2.2.2 == r6.2.2.2.2 && (o == (z, n, h, c) && Go.bits .and .u8 y 15 == 0))))))
def whirligiglaw02_AluBack.f (k : Nat) (a0 a1 : Int) (a2_0 a2_1 a2_2 a2_3 : Bool) : Option Bool :=
  (whirligiglaw02_shown.f k).bind fun up => (alu_Do.f 1 a0 a1 a2_0 a2_1 a2_2 a2_3).bind fun r1 => (alu_Do.f 3 r1.1 a1 a2_0 a2_1 a2_2 a2_3).bind fun r2 => (alu_Do.f 2 r1.1 a0 false false false false).bind fun r3 =>
  (alu_Inc.f a0 a2_0 a2_1 a2_2 a2_3).bind fun r4 => (alu_Dec.f r4.1 a2_0 a2_1 a2_2 a2_3).bind fun r5 => (alu_Do.f 0 a0 a1 a2_0 a2_1 a2_2 a2_3).bind fun r6 => (alu_Do.f 7 r6.1 a0 false false false false).bind fun r7 =>
  (alu_Byte.f a2_0 a2_1 a2_2 a2_3).bind fun y => (alu_Of.f y).bind fun o => if up = true ∧ backOk k a0 a1 a2_0 a2_1 a2_2 a2_3 r1 r2 r3 r4 r5 r6 r7 y o = true then some true else none
theorem whirligiglaw02_AluBack.calls (k : Nat) (a0 a1 : Int) (a2_0 a2_1 a2_2 a2_3 : Bool) (r : Bool) (w : World) (h : whirligiglaw02_AluBack.f k a0 a1 a2_0 a2_1 a2_2 a2_3 = some r) :
    Calls Try.prog 10 #[.int .u8 a0, .int .u8 a1, .agg #[.bool a2_0, .bool a2_1, .bool a2_2, .bool a2_3]] w fun e w' => e = .returned (.bool r) ∧ Below w.heap.size w w' := by
  unfold whirligiglaw02_AluBack.f at h
  obtain ⟨up, hup, e1⟩ := Option.bind_eq_some_iff.mp h
  obtain ⟨⟨s, g1, g2, g3, g4⟩, d1, e2⟩ := Option.bind_eq_some_iff.mp e1
  obtain ⟨⟨b, x1, x2, x3, x4⟩, d2, e3⟩ := Option.bind_eq_some_iff.mp e2
  obtain ⟨⟨l, y1, y2, y3, y4⟩, d3, e4⟩ := Option.bind_eq_some_iff.mp e3
  obtain ⟨⟨mo, u1, u2, u3, u4⟩, d4, e5⟩ := Option.bind_eq_some_iff.mp e4
  obtain ⟨⟨le, h1, h2, h3, h4⟩, d5, e6⟩ := Option.bind_eq_some_iff.mp e5
  obtain ⟨⟨pl, i1, i2, i3, i4⟩, d6, e7⟩ := Option.bind_eq_some_iff.mp e6
  obtain ⟨⟨pl2, j1, j2, j3, j4⟩, d7, e8⟩ := Option.bind_eq_some_iff.mp e7
  obtain ⟨y, d8, e9⟩ := Option.bind_eq_some_iff.mp e8
  obtain ⟨⟨o1, o2, o3, o4⟩, d9, e10⟩ := Option.bind_eq_some_iff.mp e9
  clear h e1 e2 e3 e4 e5 e6 e7 e8 e9
  rw [Option.ite_none_right_eq_some] at e10
  obtain ⟨⟨q1, q2⟩, q3⟩ := e10
  have q4 := Option.some.inj q3
  subst q4
  subst q1
  unfold backOk at q2
  simp only [Bool.and_eq_true, beq_iff_eq, Prod.mk.injEq] at q2
  obtain ⟨p1, p2, p3, p4, p5, p6, ⟨p7, p8, p9, p10⟩, p11⟩ := q2
  subst p1 p2 p4 p5 p6 p7 p8 p9 p10
  cases o4 with
  | true =>
    rw [if_pos rfl] at p3
    subst p3
    exact back_true k _ _ _ 0 _ 0 _ _ _ _ _ _ _ _ _ _ _ _ _ _ _ _ _ _ _ _ _ _ _ _ _ _ _ _ _ _ _ hup d1 d2 d3 d4 d5 d6 d7 d8 d9 p11 w
  | false =>
    rw [if_neg (by simp)] at p3
    subst p3
    exact back_false k _ _ _ 0 _ 0 _ _ _ _ _ _ _ _ _ _ _ _ _ _ _ _ _ _ _ _ _ _ _ _ _ _ _ _ _ _ _ hup d1 d2 d3 d4 d5 d6 d7 d8 d9 p11 w
end Go.Proofs.Ytdfpaebbejdjlaa.Hand
