/- The plain law of MapperInside. -/
import Derived.Test.YtkogdocpldfmnaaNum
import Derived.Test.YtkogdocpldfmnaaG18
import Derived.Test.YtkogdocpldfmnaaPure08
namespace Go.Proofs.Ytkogdocpldfmnaa.Pure
open Go.RowKit Go.Proofs.Ytkogdocpldfmnaa.G Go.Proofs.Ytkogdocpldfmnaa.Hand
open Go.Proofs.YtkogdocpldfmnaaW.PrintWords Go.Proofs.YtkogdocpldfmnaaW.PrintLast Go.Proofs.YtkogdocpldfmnaaW.PrintMore
set_option maxRecDepth 100000
set_option linter.unusedVariables false
set_option linter.unusedSimpArgs false
theorem rom_is (k : Int) (o : Bool) (l h r : Int) (md : Bool) (a s : Int) (hl : 0 ≤ l ∧ l ≤ 255) (hh : 0 ≤ h ∧ h ≤ 255) (ha : 0 ≤ a ∧ a ≤ 65535) :
    mapper_Rom.f k o l h r md a s = some (if s < 1 then -1 else if a ≥ 32768 then -1 else (bankF k l h md (a / 16384) * 16384 + a % 16384) % s) := by
  unfold mapper_Rom.f mapper_Bank.f
  have hb := bank_bd k l h md (a / 16384) hl hh
  generalize bankF k l h md (a / 16384) = t at hb
  by_cases c0 : s < 1
  · rw [if_pos c0, if_pos c0]
  rw [if_neg c0, if_neg c0]
  by_cases c1 : a ≥ 32768
  · rw [if_pos c1, if_pos c1]
  rw [if_neg c1, if_neg c1]
  simp only [Option.bind_some]
  rw [if_neg (by omega), wrap64_in (x := a) (by omega), Int.tmod_eq_emod_of_nonneg ha.1, wrap64_in (x := t * 16384) (by omega), wrap64_in (x := t * 16384 + a % 16384) (by omega), Int.tmod_eq_emod_of_nonneg (by omega)]
theorem ram_bd (k : Int) (o : Bool) (l h r : Int) (md : Bool) (a s : Int) (hh : 0 ≤ h ∧ h ≤ 255) (hr : 0 ≤ r ∧ r ≤ 255) (ha : 0 ≤ a ∧ a ≤ 65535) :
    ∃ x, mapper_Ram.f k o l h r md a s = some x ∧ -1 ≤ x ∧ (0 ≤ x → x < s ∧ 40960 ≤ a ∧ a ≤ 49151 ∧ (k = 3 → r < 8)) := by
  refine ⟨ramF k o h r md a s, rfl, ?_⟩
  have hR : ∀ (b : Int) (ok : Bool), 0 ≤ b → b ≤ 255 → -1 ≤ ramR b ok a s ∧ (0 ≤ ramR b ok a s → ramR b ok a s < s ∧ 40960 ≤ a ∧ a ≤ 49151 ∧ ok = true) := by
    intro b ok b0 b1
    unfold ramR
    by_cases c0 : s < 1
    · rw [if_pos c0]; omega
    rw [if_neg c0]
    by_cases c1 : a / 8192 = 5
    · rw [if_neg (by simpa using c1)]
      cases ok with
      | false => rw [if_neg (by simp)]; omega
      | true =>
        rw [if_pos rfl, wrap64_in (x := b * 8192) (by omega), wrap64_in (x := b * 8192 + a) (by omega), wrap64_in (x := b * 8192 + a - 40960) (by omega), Int.tmod_eq_emod_of_nonneg (by omega)]
        have h1 := Int.emod_nonneg (b * 8192 + a - 40960) (show s ≠ 0 by omega)
        have h2 := Int.emod_lt_of_pos (b * 8192 + a - 40960) (show 0 < s by omega)
        exact ⟨by omega, fun _ => ⟨by omega, by omega, by omega, rfl⟩⟩
    · rw [if_pos c1]; omega
  have hZ : ∀ (ok : Bool), -1 ≤ ramZ ok a s ∧ (0 ≤ ramZ ok a s → ramZ ok a s < s ∧ 40960 ≤ a ∧ a ≤ 49151) := by
    intro ok
    unfold ramZ
    by_cases c0 : s < 1
    · rw [if_pos c0]; omega
    rw [if_neg c0]
    by_cases c1 : a / 8192 = 5
    · rw [if_neg (by simpa using c1)]
      cases ok with
      | false => rw [if_neg (by simp)]; omega
      | true =>
        rw [if_pos rfl]
        have h1 := Int.emod_nonneg (a - 40960) (show s ≠ 0 by omega)
        have h2 := Int.emod_lt_of_pos (a - 40960) (show 0 < s by omega)
        omega
    · rw [if_pos c1]; omega
  have w1 : wrap64 h = h := wrap64_in (by omega)
  have w2 : wrap64 r = r := wrap64_in (by omega)
  unfold ramF
  rw [w1, w2]
  by_cases k1 : k = 1
  · rw [if_pos k1]
    split
    · obtain ⟨q1, q2⟩ := hR h o hh.1 hh.2
      exact ⟨q1, fun q => ⟨(q2 q).1, (q2 q).2.1, (q2 q).2.2.1, fun e => absurd e (by omega)⟩⟩
    · obtain ⟨q1, q2⟩ := hZ o
      exact ⟨q1, fun q => ⟨(q2 q).1, (q2 q).2.1, (q2 q).2.2, fun e => absurd e (by omega)⟩⟩
  rw [if_neg k1]
  by_cases k3 : k = 3
  · rw [if_pos k3]
    split
    · split
      · rename_i hr8
        obtain ⟨q1, q2⟩ := hR r true hr.1 hr.2
        exact ⟨q1, fun q => ⟨(q2 q).1, (q2 q).2.1, (q2 q).2.2.1, fun e => hr8⟩⟩
      · obtain ⟨q1, q2⟩ := hR r false hr.1 hr.2
        exact ⟨q1, fun q => absurd (q2 q).2.2.2 (by simp)⟩
    · obtain ⟨q1, q2⟩ := hR r false hr.1 hr.2
      exact ⟨q1, fun q => absurd (q2 q).2.2.2 (by simp)⟩
  rw [if_neg k3]
  split
  · obtain ⟨q1, q2⟩ := hR r o hr.1 hr.2
    exact ⟨q1, fun q => ⟨(q2 q).1, (q2 q).2.1, (q2 q).2.2.1, fun e => absurd e k3⟩⟩
  · obtain ⟨q1, q2⟩ := hZ true
    exact ⟨q1, fun q => ⟨(q2 q).1, (q2 q).2.1, (q2 q).2.2, fun e => absurd e k3⟩⟩
theorem reg_bd (k : Int) (o : Bool) (l h r : Int) (md : Bool) (a : Int) (hr : 0 ≤ r ∧ r ≤ 255) : ∃ z, mapper_Reg.f k o l h r md a = some z ∧ (z > 0 → k = 3 ∧ 8 ≤ r) := by
  unfold mapper_Reg.f mapper_inside.f
  simp only [Option.bind_some]
  split
  · split
    · split
      · split
        · exact ⟨_, rfl, fun q => absurd q (by omega)⟩
        · split
          · exact ⟨_, rfl, fun q => absurd q (by omega)⟩
          · exact ⟨_, rfl, fun _ => ⟨by assumption, by omega⟩⟩
      · exact ⟨_, rfl, fun q => absurd q (by omega)⟩
    · exact ⟨_, rfl, fun q => absurd q (by omega)⟩
  · exact ⟨_, rfl, fun q => absurd q (by omega)⟩
theorem shl_all : ∀ v : Fin 10, shl .i64 1 (v.val : Int) = ((2 ^ v.val : Nat) : Int) := by decide +kernel
theorem join (k : Int) (o : Bool) (l h r : Int) (md : Bool) (a g : Int) (hl : 0 ≤ l ∧ l ≤ 255) (hh : 0 ≤ h ∧ h ≤ 255) (ha : 0 ≤ a ∧ a ≤ 65535) (hg : 0 ≤ g ∧ g ≤ 255) :
    whirligiglaw08_MapperInside.j0 1 a g true false k o l h r md = some true := by
  simp only [whirligiglaw08_MapperInside.j0]
  rw [if_neg (by simp), Int.tmod_eq_emod_of_nonneg hg.1, if_pos (by omega)]
  obtain ⟨v, hv⟩ : ∃ v : Fin 10, g % 10 = (v.val : Int) := ⟨⟨(g % 10).toNat, by omega⟩, by show g % 10 = ((g % 10).toNat : Int); omega⟩
  rw [hv, shl_all v]
  have hp : 1 ≤ (2 : Nat) ^ v.val := Nat.one_le_two_pow
  have hp2 : (2 : Nat) ^ v.val ≤ 2 ^ 9 := Nat.pow_le_pow_right (by omega) (by omega)
  generalize (2 : Nat) ^ v.val = b at hp hp2
  have hb2 : b ≤ 512 := hp2
  rw [wrap64_in (x := (b : Int) * 16384) (by omega), rom_is k o l h r md a _ hl hh ha]
  simp only [Option.bind_some]
  rw [if_pos trivial]
  by_cases c : a > 32767
  · rw [if_pos c]
  rw [if_neg c, if_neg (by omega), if_neg (by omega)]
  unfold mapper_Bank.f
  simp only [Option.bind_some]
  have hbd := bank_bd k l h md (a / 16384) hl hh
  generalize bankF k l h md (a / 16384) = t at hbd
  rw [if_neg (by omega)]
  have hm : (t * 16384 + a % 16384) % ((b : Int) * 16384) = t % (b : Int) * 16384 + a % 16384 := by
    have e1 : t = (b : Int) * (t / (b : Int)) + t % (b : Int) := (Int.mul_ediv_add_emod t b).symm
    have h1 := Int.emod_nonneg t (show (b : Int) ≠ 0 by omega)
    have h2 := Int.emod_lt_of_pos t (show 0 < (b : Int) by omega)
    have e2 : t * 16384 + a % 16384 = (t % (b : Int) * 16384 + a % 16384) + ((b : Int) * 16384) * (t / (b : Int)) := by
      have e3 : t * 16384 = ((b : Int) * (t / (b : Int)) + t % (b : Int)) * 16384 := by rw [← e1]
      rw [e3, Int.add_mul, show (b : Int) * 16384 * (t / (b : Int)) = (b : Int) * (t / (b : Int)) * 16384 by rw [Int.mul_assoc, Int.mul_comm 16384, ← Int.mul_assoc]]
      omega
    rw [e2, Int.add_mul_emod_self_left]
    exact Int.emod_eq_of_lt (by omega) (by omega)
  rw [hm]
  have h1 := Int.emod_nonneg t (show (b : Int) ≠ 0 by omega)
  have h2 := Int.emod_lt_of_pos t (show 0 < (b : Int) by omega)
  rw [Int.tmod_eq_emod_of_nonneg hbd.1]
  generalize t % (b : Int) = q at h1 h2
  rw [Int.tdiv_eq_ediv_of_nonneg (by omega), Int.tmod_eq_emod_of_nonneg (by omega), wrap64_in (x := a) (by omega), Int.tmod_eq_emod_of_nonneg ha.1, wrap64_in (by omega), if_pos (by omega)]
  congr 1
  rw [beq_iff_eq]
  omega
theorem MapperInside (k : Int) (o : Bool) (l h r : Int) (md : Bool) (a s g : Int) (w0 : (Lit.int .i64 k).wf = true) (w1 : (Lit.int .u8 l).wf = true) (w2 : (Lit.int .u8 h).wf = true) (w3 : (Lit.int .u8 r).wf = true) (w4 : (Lit.int .u16 a).wf = true) (w5 : (Lit.int .i64 s).wf = true) (w6 : (Lit.int .u8 g).wf = true) : ∃ n, whirligiglaw08_MapperInside.f n k o l h r md a s g = some true := by
  have hl := u8_bd w1
  have hh := u8_bd w2
  have hr := u8_bd w3
  have ha := u16_bd w4
  have hg := u8_bd w6
  refine ⟨1, ?_⟩
  have hj := join k o l h r md a g hl hh ha hg
  obtain ⟨y, hy, y1, y2⟩ := ram_bd k o l h r md a s hh hr ha
  obtain ⟨z, hz, z1⟩ := reg_bd k o l h r md a hr
  have hx : ∃ x, mapper_Rom.f k o l h r md a s = some x ∧ -1 ≤ x ∧ (0 ≤ x → x < s ∧ s > 0 ∧ a < 32768) ∧ (s > 0 → a < 32768 → 0 ≤ x) := by
    refine ⟨_, rom_is k o l h r md a s hl hh ha, ?_⟩
    by_cases c0 : s < 1
    · rw [if_pos c0]; omega
    rw [if_neg c0]
    by_cases c1 : a ≥ 32768
    · rw [if_pos c1]; omega
    rw [if_neg c1]
    have h1 := Int.emod_nonneg (bankF k l h md (a / 16384) * 16384 + a % 16384) (show s ≠ 0 by omega)
    have h2 := Int.emod_lt_of_pos (bankF k l h md (a / 16384) * 16384 + a % 16384) (show 0 < s by omega)
    generalize (bankF k l h md (a / 16384) * 16384 + a % 16384) % s = x at h1 h2
    omega
  obtain ⟨x, hx, x1, x2, x3⟩ := hx
  unfold whirligiglaw08_MapperInside.f
  rw [shown_is, hx, hy, hz]
  simp only [Option.bind_some]
  rw [if_neg (by omega), if_neg (by omega)]
  have hzz : y ≥ 0 → decide (z > 0) = false := by
    intro hy0
    rw [decide_eq_false_iff_not]
    intro hz0
    obtain ⟨e1, e2⟩ := z1 hz0
    have := (y2 hy0).2.2.2 e1
    omega
  by_cases cx : x ≥ 0
  · obtain ⟨p1, p2, p3⟩ := x2 cx
    have e1 : ((decide (x ≥ 0)) != (decide (a < 32768))) = false := by rw [decide_eq_true cx, decide_eq_true p3]; rfl
    rw [if_pos cx, if_neg (by omega)]
    by_cases cy : y ≥ 0
    · obtain ⟨q1, q2, q3, q4⟩ := y2 cy
      omega
    · rw [if_neg cy, if_pos p2, e1, if_neg (by simp)]
      exact hj
  · rw [if_neg cx]
    have e0 : decide (x ≥ 0) = false := decide_eq_false cx
    have e1 : s > 0 → ((decide (x ≥ 0)) != (decide (a < 32768))) = false := by
      intro hs
      rw [e0, decide_eq_false (by omega)]; rfl
    by_cases cy : y ≥ 0
    · obtain ⟨q1, q2, q3, q4⟩ := y2 cy
      rw [if_pos cy, if_neg (by omega), if_pos (by omega), e1 (by omega), if_neg (by simp), if_neg (by omega), if_neg (by omega), hzz cy]
      exact hj
    · rw [if_neg cy]
      by_cases cs : s > 0
      · rw [if_pos cs, e1 cs, if_neg (by simp)]
        exact hj
      · rw [if_neg cs, e0, if_neg (by simp)]
        exact hj
end Go.Proofs.Ytkogdocpldfmnaa.Pure
