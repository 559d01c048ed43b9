/- Two bytes bit by bit: the reference's rounds come to &, ^ and |. -/
import Derived.Test.YtdfpaebbejdjlaaNum
import Derived.Test.YtdfpaebbejdjlaaG11
import Derived.Test.YtdfpaebbejdjlaaHAlu
namespace Go.Proofs.Ytdfpaebbejdjlaa.Pure
open Go.RowKit Go.Proofs.Ytdfpaebbejdjlaa.G Go.Proofs.Ytdfpaebbejdjlaa.Hand
open Go.Proofs.YtdfpaebbejdjlaaW.PrintWords Go.Proofs.YtdfpaebbejdjlaaW.PrintLast Go.Proofs.YtdfpaebbejdjlaaW.PrintMore
set_option maxRecDepth 100000
set_option linter.unusedVariables false
/-- A number of its eight bits. -/
def ofBits (f : Nat → Bool) : Nat := (if f 0 then 1 else 0) + (if f 1 then 2 else 0) + (if f 2 then 4 else 0) + (if f 3 then 8 else 0) + (if f 4 then 16 else 0) + (if f 5 then 32 else 0) + (if f 6 then 64 else 0) + (if f 7 then 128 else 0)
theorem ofBits_all : ∀ n : Fin 256, ofBits (fun i => n.val.testBit i) = n.val := by decide +kernel
theorem ofBits_is (n : Nat) (h : n < 256) : ofBits (fun i => n.testBit i) = n := ofBits_all ⟨n, h⟩
theorem bit_all : ∀ i : Fin 8, ∀ v : Fin 256, whirligigref01_Bit.f 20 (v.val : Int) (i.val : Int) = some (v.val.testBit i.val) := by decide +kernel
theorem bit_more (a b : Int) (r : Bool) (K : Nat) (h : whirligigref01_Bit.f K a b = some r) : ∀ k, K ≤ k → whirligigref01_Bit.f k a b = some r :=
  fun k hk => at_rounds (g := fun k => whirligigref01_Bit.f k a b) (fun k => whirligigref01_Bit.mono a b k) hk h
theorem put_all : ∀ i : Fin 8, ∀ v : Fin 128, ∀ b : Bool, v.val < 2 ^ i.val → whirligigref01_Put.f 30 (v.val : Int) (i.val : Int) b = some ((v.val + (if b then 2 ^ i.val else 0) : Nat) : Int) := by decide +kernel
theorem put_more (a b : Int) (c : Bool) (r : Int) (K : Nat) (h : whirligigref01_Put.f K a b c = some r) : ∀ k, K ≤ k → whirligigref01_Put.f k a b c = some r :=
  fun k hk => at_rounds (g := fun k => whirligigref01_Put.f k a b c) (fun k => whirligigref01_Put.mono a b c k) hk h
def opB (m : Int) (x y : Bool) : Bool := if m = 4 then x && y else if m = 5 then x != y else x || y
theorem each_step (m : Int) (a v : Fin 256) (w : Nat) (i : Fin 8) (k : Nat) (hk : 40 ≤ k) (hw : w < 2 ^ i.val) :
    whirligigref02_each.l0 (k + 2) m (a.val : Int) (v.val : Int) (w : Int) (i.val : Int) = whirligigref02_each.l0 k m (a.val : Int) (v.val : Int) ((w + (if opB m (a.val.testBit i.val) (v.val.testBit i.val) then 2 ^ i.val else 0) : Nat) : Int) ((i.val + 1 : Nat) : Int) := by
  have hi := i.isLt
  have b1 := bit_more _ _ _ 20 (bit_all i a) (k + 1) (by omega)
  have b2 := bit_more _ _ _ 20 (bit_all i v) (k + 1) (by omega)
  have hw' : w < 128 := by
    have : 2 ^ i.val ≤ 2 ^ 7 := Nat.pow_le_pow_right (by omega) (by omega)
    omega
  have p : ∀ b : Bool, whirligigref01_Put.f k (w : Int) (i.val : Int) b = some ((w + (if b then 2 ^ i.val else 0) : Nat) : Int) := fun b => put_more _ _ _ _ 30 (put_all i ⟨w, hw'⟩ b hw) k (by omega)
  have e : wrap64 ((i.val : Int) + 1) = ((i.val + 1 : Nat) : Int) := by rw [wrap64_in (by omega)]; omega
  simp only [whirligigref02_each.l0, whirligigref02_each.j1]
  rw [if_pos (by omega), b1, b2]
  simp only [Option.bind_some, p, e, opB]
  generalize a.val.testBit i.val = x
  generalize v.val.testBit i.val = y
  by_cases h4 : m = 4
  · have h5 : ¬ m = 5 := by omega
    cases x <;> cases y <;> simp [h4]
  · by_cases h5 : m = 5
    · cases x <;> cases y <;> simp [h5]
    · cases x <;> cases y <;> simp [h4, h5]
theorem each_is (m : Int) (a v : Fin 256) (k : Nat) (hk : 60 ≤ k) :
    whirligigref02_each.f k m (a.val : Int) (v.val : Int) = some ((ofBits fun i => opB m (a.val.testBit i) (v.val.testBit i) : Nat) : Int) := by
  obtain ⟨k, rfl⟩ : ∃ j, k = j + 17 := ⟨k - 17, by omega⟩
  have le : ∀ (b : Bool) (n : Nat), (if b = true then n else 0) ≤ n := fun b n => by split <;> omega
  unfold whirligigref02_each.f
  generalize hg : (fun i => opB m (a.val.testBit i) (v.val.testBit i)) = g
  have hgi : ∀ i, opB m (a.val.testBit i) (v.val.testBit i) = g i := fun i => by rw [← hg]
  have s0 := each_step m a v 0 0 (k + 15) (by omega) (by simp)
  have s1 := fun w h => each_step m a v w 1 (k + 13) (by omega) h
  have s2 := fun w h => each_step m a v w 2 (k + 11) (by omega) h
  have s3 := fun w h => each_step m a v w 3 (k + 9) (by omega) h
  have s4 := fun w h => each_step m a v w 4 (k + 7) (by omega) h
  have s5 := fun w h => each_step m a v w 5 (k + 5) (by omega) h
  have s6 := fun w h => each_step m a v w 6 (k + 3) (by omega) h
  have s7 := fun w h => each_step m a v w 7 (k + 1) (by omega) h
  simp only [hgi] at s0 s1 s2 s3 s4 s5 s6 s7
  have l0 := le (g 0) 1; have l1 := le (g 1) 2; have l2 := le (g 2) 4; have l3 := le (g 3) 8; have l4 := le (g 4) 16; have l5 := le (g 5) 32; have l6 := le (g 6) 64
  have t0 : whirligigref02_each.l0 (k + 17) m (a.val : Int) (v.val : Int) 0 0 = whirligigref02_each.l0 (k + 15) m (a.val : Int) (v.val : Int) (((if g 0 then 1 else 0) : Nat) : Int) ((1 : Nat) : Int) := by
    have := s0; simpa using this
  rw [t0]
  have t1 := s1 ((if g 0 then 1 else 0)) (by show _ < 2; omega)
  have t2 := s2 ((if g 0 then 1 else 0) + (if g 1 then 2 else 0)) (by show _ < 4; omega)
  have t3 := s3 ((if g 0 then 1 else 0) + (if g 1 then 2 else 0) + (if g 2 then 4 else 0)) (by show _ < 8; omega)
  have t4 := s4 ((if g 0 then 1 else 0) + (if g 1 then 2 else 0) + (if g 2 then 4 else 0) + (if g 3 then 8 else 0)) (by show _ < 16; omega)
  have t5 := s5 ((if g 0 then 1 else 0) + (if g 1 then 2 else 0) + (if g 2 then 4 else 0) + (if g 3 then 8 else 0) + (if g 4 then 16 else 0)) (by show _ < 32; omega)
  have t6 := s6 ((if g 0 then 1 else 0) + (if g 1 then 2 else 0) + (if g 2 then 4 else 0) + (if g 3 then 8 else 0) + (if g 4 then 16 else 0) + (if g 5 then 32 else 0)) (by show _ < 64; omega)
  have t7 := s7 ((if g 0 then 1 else 0) + (if g 1 then 2 else 0) + (if g 2 then 4 else 0) + (if g 3 then 8 else 0) + (if g 4 then 16 else 0) + (if g 5 then 32 else 0) + (if g 6 then 64 else 0)) (by show _ < 128; omega)
  refine (show _ = _ from t1).trans ((show _ = _ from t2).trans ((show _ = _ from t3).trans ((show _ = _ from t4).trans ((show _ = _ from t5).trans ((show _ = _ from t6).trans ((show _ = _ from t7).trans ?_))))))
  simp only [whirligigref02_each.l0]
  rw [if_neg (by decide)]
  rfl
theorem each_and (a v : Fin 256) (k : Nat) (hk : 60 ≤ k) : whirligigref02_each.f k 4 (a.val : Int) (v.val : Int) = some (Go.bits .and .u8 (a.val : Int) (v.val : Int)) := by
  have hx : a.val &&& v.val < 2 ^ 8 := Nat.and_lt_two_pow _ (by have := v.isLt; omega)
  rw [each_is 4 a v k hk, u8_and_nat a.val v.val a.isLt v.isLt]
  congr 2
  rw [← ofBits_is (a.val &&& v.val) hx]
  congr 1
  funext i
  rw [Nat.testBit_and]; rfl
theorem each_xor (a v : Fin 256) (k : Nat) (hk : 60 ≤ k) : whirligigref02_each.f k 5 (a.val : Int) (v.val : Int) = some (Go.bits .xor .u8 (a.val : Int) (v.val : Int)) := by
  have hx : a.val ^^^ v.val < 2 ^ 8 := Nat.xor_lt_two_pow a.isLt v.isLt
  rw [each_is 5 a v k hk, u8_xor_nat a.val v.val a.isLt v.isLt]
  congr 2
  rw [← ofBits_is (a.val ^^^ v.val) hx]
  congr 1
  funext i
  rw [Nat.testBit_xor]; rfl
theorem each_or (a v : Fin 256) (k : Nat) (hk : 60 ≤ k) : whirligigref02_each.f k 6 (a.val : Int) (v.val : Int) = some (Go.bits .or .u8 (a.val : Int) (v.val : Int)) := by
  have hx : a.val ||| v.val < 2 ^ 8 := Nat.or_lt_two_pow a.isLt v.isLt
  rw [each_is 6 a v k hk, u8_or_nat a.val v.val a.isLt v.isLt]
  congr 2
  rw [← ofBits_is (a.val ||| v.val) hx]
  congr 1
  funext i
  rw [Nat.testBit_or]; rfl
end Go.Proofs.Ytdfpaebbejdjlaa.Pure
