/- The plain law of RegsApart: a register that is put leaves all others as they were. -/
import Derived.Test.YthkoofidnaghcaaNum
import Derived.Test.YthkoofidnaghcaaPureRegsSplit
import Derived.Test.YthkoofidnaghcaaG45
namespace Go.Proofs.Ythkoofidnaghcaa.Pure
open Go.RowKit Go.Proofs.Ythkoofidnaghcaa.G Go.Proofs.Ythkoofidnaghcaa.Hand
open Go.Proofs.YthkoofidnaghcaaW.PrintWords Go.Proofs.YthkoofidnaghcaaW.PrintLast Go.Proofs.YthkoofidnaghcaaW.PrintMore
set_option maxRecDepth 100000
set_option linter.unusedVariables false
set_option linter.unusedSimpArgs false
theorem wr0 : wrap64 0 = 0 := by kernel_rfl
theorem wr1 : wrap64 1 = 1 := by kernel_rfl
theorem wr2 : wrap64 2 = 2 := by kernel_rfl
theorem wr3 : wrap64 3 = 3 := by kernel_rfl
theorem wr4 : wrap64 4 = 4 := by kernel_rfl
theorem wr5 : wrap64 5 = 5 := by kernel_rfl
theorem wr6 : wrap64 6 = 6 := by kernel_rfl
theorem wr7 : wrap64 7 = 7 := by kernel_rfl
theorem wr8 : wrap64 8 = 8 := by kernel_rfl
set_option maxHeartbeats 4000000 in
theorem apart0 (a f b c d e h l s p v w q : Int) (t : Bool) (y0 y1 y2 y3 y4 y5 y6 y7 y8 y9 : Int) : whirligiglaw04_RegsApart.l0 90 w t 0 q 0 0 a f b c d e h l s p a f v c d e h l s p y0 y1 y2 y3 y4 y5 y6 y7 y8 y9 = whirligiglaw04_RegsApart.l1 81 w t q 0 0 a f b c d e h l s p a f v c d e h l s p y0 y1 y2 y3 y4 y5 y6 y7 y8 y9 := by
  simp [whirligiglaw04_RegsApart.l0, regs_Get.f, wr0, wr1, wr2, wr3, wr4, wr5, wr6, wr7, wr8]
set_option maxHeartbeats 4000000 in
theorem apart1 (a f b c d e h l s p v w q : Int) (t : Bool) (y0 y1 y2 y3 y4 y5 y6 y7 y8 y9 : Int) : whirligiglaw04_RegsApart.l0 90 w t 1 q 0 0 a f b c d e h l s p a f b v d e h l s p y0 y1 y2 y3 y4 y5 y6 y7 y8 y9 = whirligiglaw04_RegsApart.l1 81 w t q 0 0 a f b c d e h l s p a f b v d e h l s p y0 y1 y2 y3 y4 y5 y6 y7 y8 y9 := by
  simp [whirligiglaw04_RegsApart.l0, regs_Get.f, wr0, wr1, wr2, wr3, wr4, wr5, wr6, wr7, wr8]
set_option maxHeartbeats 4000000 in
theorem apart2 (a f b c d e h l s p v w q : Int) (t : Bool) (y0 y1 y2 y3 y4 y5 y6 y7 y8 y9 : Int) : whirligiglaw04_RegsApart.l0 90 w t 2 q 0 0 a f b c d e h l s p a f b c v e h l s p y0 y1 y2 y3 y4 y5 y6 y7 y8 y9 = whirligiglaw04_RegsApart.l1 81 w t q 0 0 a f b c d e h l s p a f b c v e h l s p y0 y1 y2 y3 y4 y5 y6 y7 y8 y9 := by
  simp [whirligiglaw04_RegsApart.l0, regs_Get.f, wr0, wr1, wr2, wr3, wr4, wr5, wr6, wr7, wr8]
set_option maxHeartbeats 4000000 in
theorem apart3 (a f b c d e h l s p v w q : Int) (t : Bool) (y0 y1 y2 y3 y4 y5 y6 y7 y8 y9 : Int) : whirligiglaw04_RegsApart.l0 90 w t 3 q 0 0 a f b c d e h l s p a f b c d v h l s p y0 y1 y2 y3 y4 y5 y6 y7 y8 y9 = whirligiglaw04_RegsApart.l1 81 w t q 0 0 a f b c d e h l s p a f b c d v h l s p y0 y1 y2 y3 y4 y5 y6 y7 y8 y9 := by
  simp [whirligiglaw04_RegsApart.l0, regs_Get.f, wr0, wr1, wr2, wr3, wr4, wr5, wr6, wr7, wr8]
set_option maxHeartbeats 4000000 in
theorem apart4 (a f b c d e h l s p v w q : Int) (t : Bool) (y0 y1 y2 y3 y4 y5 y6 y7 y8 y9 : Int) : whirligiglaw04_RegsApart.l0 90 w t 4 q 0 0 a f b c d e h l s p a f b c d e v l s p y0 y1 y2 y3 y4 y5 y6 y7 y8 y9 = whirligiglaw04_RegsApart.l1 81 w t q 0 0 a f b c d e h l s p a f b c d e v l s p y0 y1 y2 y3 y4 y5 y6 y7 y8 y9 := by
  simp [whirligiglaw04_RegsApart.l0, regs_Get.f, wr0, wr1, wr2, wr3, wr4, wr5, wr6, wr7, wr8]
set_option maxHeartbeats 4000000 in
theorem apart5 (a f b c d e h l s p v w q : Int) (t : Bool) (y0 y1 y2 y3 y4 y5 y6 y7 y8 y9 : Int) : whirligiglaw04_RegsApart.l0 90 w t 5 q 0 0 a f b c d e h l s p a f b c d e h v s p y0 y1 y2 y3 y4 y5 y6 y7 y8 y9 = whirligiglaw04_RegsApart.l1 81 w t q 0 0 a f b c d e h l s p a f b c d e h v s p y0 y1 y2 y3 y4 y5 y6 y7 y8 y9 := by
  simp [whirligiglaw04_RegsApart.l0, regs_Get.f, wr0, wr1, wr2, wr3, wr4, wr5, wr6, wr7, wr8]
set_option maxHeartbeats 4000000 in
theorem apart6 (a f b c d e h l s p v w q : Int) (t : Bool) (y0 y1 y2 y3 y4 y5 y6 y7 y8 y9 : Int) : whirligiglaw04_RegsApart.l0 90 w t 6 q 7 0 a f b c d e h l s p 0 0 0 0 0 0 0 0 0 0 y0 y1 y2 y3 y4 y5 y6 y7 y8 y9 = whirligiglaw04_RegsApart.l1 81 w t q 7 0 a f b c d e h l s p 0 0 0 0 0 0 0 0 0 0 y0 y1 y2 y3 y4 y5 y6 y7 y8 y9 := by
  simp [whirligiglaw04_RegsApart.l0, regs_Get.f, wr0, wr1, wr2, wr3, wr4, wr5, wr6, wr7, wr8]
set_option maxHeartbeats 4000000 in
theorem apart7 (a f b c d e h l s p v w q : Int) (t : Bool) (y0 y1 y2 y3 y4 y5 y6 y7 y8 y9 : Int) : whirligiglaw04_RegsApart.l0 90 w t 7 q 0 0 a f b c d e h l s p v f b c d e h l s p y0 y1 y2 y3 y4 y5 y6 y7 y8 y9 = whirligiglaw04_RegsApart.l1 81 w t q 0 0 a f b c d e h l s p v f b c d e h l s p y0 y1 y2 y3 y4 y5 y6 y7 y8 y9 := by
  simp [whirligiglaw04_RegsApart.l0, regs_Get.f, wr0, wr1, wr2, wr3, wr4, wr5, wr6, wr7, wr8]
set_option maxHeartbeats 4000000 in
theorem bpart0 (a f b c d e h l s p w q : Int) (t : Bool) (x0 x1 x2 x3 x4 x5 x6 x7 x8 x9 : Int) (b0 : 0 ≤ a ∧ a ≤ 255) (b1 : 0 ≤ f ∧ f ≤ 255) (b2 : 0 ≤ b ∧ b ≤ 255) (b3 : 0 ≤ c ∧ c ≤ 255) (b4 : 0 ≤ d ∧ d ≤ 255) (b5 : 0 ≤ e ∧ e ≤ 255) (b6 : 0 ≤ h ∧ h ≤ 255) (b7 : 0 ≤ l ∧ l ≤ 255) (bw : 0 ≤ w ∧ w ≤ 65535) : whirligiglaw04_RegsApart.l1 81 w t 0 q 0 a f b c d e h l s p x0 x1 x2 x3 x4 x5 x6 x7 x8 x9 a f (w / 256) (w % 256) d e h l s p = if t = true then (if q = 0 then (if x1 = f then (if x8 = s then some (x9 == p) else some false) else some false) else some true) else some false := by
  have j0 := join_prog a f b0 b1
  have j1 := join_prog b c b2 b3
  have j2 := join_prog d e b4 b5
  have j3 := join_prog h l b6 b7
  have jw := join_prog (w / 256) (w % 256) (by omega) (by omega)
  have jv := join_prog (w / 256) (w % 256 / 16 * 16) (by omega) (by omega)
  have ew : w / 256 * 256 + w % 256 = w := by omega
  have ev : IntKind.u16.wrap (IntKind.u16.wrap (Int.tdiv w 16) * 16) = w / 256 * 256 + w % 256 / 16 * 16 := by
    rw [Int.tdiv_eq_ediv_of_nonneg (by omega), IntKind.wrap_u16, IntKind.wrap_u16]; omega
  rw [ew] at jw
  clear ew b0 b1 b2 b3 b4 b5 b6 b7 bw
  simp [whirligiglaw04_RegsApart.l1, regs_Pair.f, wr0, wr1, wr2, wr3, wr4, wr5, wr6, wr7, wr8, j0, j1, j2, j3, jw, jv, ev]
set_option maxHeartbeats 4000000 in
theorem bpart1 (a f b c d e h l s p w q : Int) (t : Bool) (x0 x1 x2 x3 x4 x5 x6 x7 x8 x9 : Int) (b0 : 0 ≤ a ∧ a ≤ 255) (b1 : 0 ≤ f ∧ f ≤ 255) (b2 : 0 ≤ b ∧ b ≤ 255) (b3 : 0 ≤ c ∧ c ≤ 255) (b4 : 0 ≤ d ∧ d ≤ 255) (b5 : 0 ≤ e ∧ e ≤ 255) (b6 : 0 ≤ h ∧ h ≤ 255) (b7 : 0 ≤ l ∧ l ≤ 255) (bw : 0 ≤ w ∧ w ≤ 65535) : whirligiglaw04_RegsApart.l1 81 w t 1 q 0 a f b c d e h l s p x0 x1 x2 x3 x4 x5 x6 x7 x8 x9 a f b c (w / 256) (w % 256) h l s p = if t = true then (if q = 0 then (if x1 = f then (if x8 = s then some (x9 == p) else some false) else some false) else some true) else some false := by
  have j0 := join_prog a f b0 b1
  have j1 := join_prog b c b2 b3
  have j2 := join_prog d e b4 b5
  have j3 := join_prog h l b6 b7
  have jw := join_prog (w / 256) (w % 256) (by omega) (by omega)
  have jv := join_prog (w / 256) (w % 256 / 16 * 16) (by omega) (by omega)
  have ew : w / 256 * 256 + w % 256 = w := by omega
  have ev : IntKind.u16.wrap (IntKind.u16.wrap (Int.tdiv w 16) * 16) = w / 256 * 256 + w % 256 / 16 * 16 := by
    rw [Int.tdiv_eq_ediv_of_nonneg (by omega), IntKind.wrap_u16, IntKind.wrap_u16]; omega
  rw [ew] at jw
  clear ew b0 b1 b2 b3 b4 b5 b6 b7 bw
  simp [whirligiglaw04_RegsApart.l1, regs_Pair.f, wr0, wr1, wr2, wr3, wr4, wr5, wr6, wr7, wr8, j0, j1, j2, j3, jw, jv, ev]
set_option maxHeartbeats 4000000 in
theorem bpart2 (a f b c d e h l s p w q : Int) (t : Bool) (x0 x1 x2 x3 x4 x5 x6 x7 x8 x9 : Int) (b0 : 0 ≤ a ∧ a ≤ 255) (b1 : 0 ≤ f ∧ f ≤ 255) (b2 : 0 ≤ b ∧ b ≤ 255) (b3 : 0 ≤ c ∧ c ≤ 255) (b4 : 0 ≤ d ∧ d ≤ 255) (b5 : 0 ≤ e ∧ e ≤ 255) (b6 : 0 ≤ h ∧ h ≤ 255) (b7 : 0 ≤ l ∧ l ≤ 255) (bw : 0 ≤ w ∧ w ≤ 65535) : whirligiglaw04_RegsApart.l1 81 w t 2 q 0 a f b c d e h l s p x0 x1 x2 x3 x4 x5 x6 x7 x8 x9 a f b c d e (w / 256) (w % 256) s p = if t = true then (if q = 0 then (if x1 = f then (if x8 = s then some (x9 == p) else some false) else some false) else some true) else some false := by
  have j0 := join_prog a f b0 b1
  have j1 := join_prog b c b2 b3
  have j2 := join_prog d e b4 b5
  have j3 := join_prog h l b6 b7
  have jw := join_prog (w / 256) (w % 256) (by omega) (by omega)
  have jv := join_prog (w / 256) (w % 256 / 16 * 16) (by omega) (by omega)
  have ew : w / 256 * 256 + w % 256 = w := by omega
  have ev : IntKind.u16.wrap (IntKind.u16.wrap (Int.tdiv w 16) * 16) = w / 256 * 256 + w % 256 / 16 * 16 := by
    rw [Int.tdiv_eq_ediv_of_nonneg (by omega), IntKind.wrap_u16, IntKind.wrap_u16]; omega
  rw [ew] at jw
  clear ew b0 b1 b2 b3 b4 b5 b6 b7 bw
  simp [whirligiglaw04_RegsApart.l1, regs_Pair.f, wr0, wr1, wr2, wr3, wr4, wr5, wr6, wr7, wr8, j0, j1, j2, j3, jw, jv, ev]
set_option maxHeartbeats 4000000 in
theorem bpart3 (a f b c d e h l s p w q : Int) (t : Bool) (x0 x1 x2 x3 x4 x5 x6 x7 x8 x9 : Int) (b0 : 0 ≤ a ∧ a ≤ 255) (b1 : 0 ≤ f ∧ f ≤ 255) (b2 : 0 ≤ b ∧ b ≤ 255) (b3 : 0 ≤ c ∧ c ≤ 255) (b4 : 0 ≤ d ∧ d ≤ 255) (b5 : 0 ≤ e ∧ e ≤ 255) (b6 : 0 ≤ h ∧ h ≤ 255) (b7 : 0 ≤ l ∧ l ≤ 255) (bw : 0 ≤ w ∧ w ≤ 65535) : whirligiglaw04_RegsApart.l1 81 w t 3 q 0 a f b c d e h l s p x0 x1 x2 x3 x4 x5 x6 x7 x8 x9 a f b c d e h l w p = if t = true then (if q = 0 then (if x1 = f then (if x8 = s then some (x9 == p) else some false) else some false) else some true) else some false := by
  have j0 := join_prog a f b0 b1
  have j1 := join_prog b c b2 b3
  have j2 := join_prog d e b4 b5
  have j3 := join_prog h l b6 b7
  have jw := join_prog (w / 256) (w % 256) (by omega) (by omega)
  have jv := join_prog (w / 256) (w % 256 / 16 * 16) (by omega) (by omega)
  have ew : w / 256 * 256 + w % 256 = w := by omega
  have ev : IntKind.u16.wrap (IntKind.u16.wrap (Int.tdiv w 16) * 16) = w / 256 * 256 + w % 256 / 16 * 16 := by
    rw [Int.tdiv_eq_ediv_of_nonneg (by omega), IntKind.wrap_u16, IntKind.wrap_u16]; omega
  rw [ew] at jw
  clear ew b0 b1 b2 b3 b4 b5 b6 b7 bw
  simp [whirligiglaw04_RegsApart.l1, regs_Pair.f, wr0, wr1, wr2, wr3, wr4, wr5, wr6, wr7, wr8, j0, j1, j2, j3, jw, jv, ev]
set_option maxHeartbeats 4000000 in
theorem bpart4 (a f b c d e h l s p w q : Int) (t : Bool) (x0 x1 x2 x3 x4 x5 x6 x7 x8 x9 : Int) (b0 : 0 ≤ a ∧ a ≤ 255) (b1 : 0 ≤ f ∧ f ≤ 255) (b2 : 0 ≤ b ∧ b ≤ 255) (b3 : 0 ≤ c ∧ c ≤ 255) (b4 : 0 ≤ d ∧ d ≤ 255) (b5 : 0 ≤ e ∧ e ≤ 255) (b6 : 0 ≤ h ∧ h ≤ 255) (b7 : 0 ≤ l ∧ l ≤ 255) (bw : 0 ≤ w ∧ w ≤ 65535) : whirligiglaw04_RegsApart.l1 81 w t 4 q 0 a f b c d e h l s p x0 x1 x2 x3 x4 x5 x6 x7 x8 x9 (w / 256) (w % 256 / 16 * 16) b c d e h l s p = if t = true then (if q = 0 then (if x1 = f then (if x8 = s then some (x9 == p) else some false) else some false) else some true) else some false := by
  have j0 := join_prog a f b0 b1
  have j1 := join_prog b c b2 b3
  have j2 := join_prog d e b4 b5
  have j3 := join_prog h l b6 b7
  have jw := join_prog (w / 256) (w % 256) (by omega) (by omega)
  have jv := join_prog (w / 256) (w % 256 / 16 * 16) (by omega) (by omega)
  have ew : w / 256 * 256 + w % 256 = w := by omega
  have ev : IntKind.u16.wrap (IntKind.u16.wrap (Int.tdiv w 16) * 16) = w / 256 * 256 + w % 256 / 16 * 16 := by
    rw [Int.tdiv_eq_ediv_of_nonneg (by omega), IntKind.wrap_u16, IntKind.wrap_u16]; omega
  rw [ew] at jw
  clear ew b0 b1 b2 b3 b4 b5 b6 b7 bw
  simp [whirligiglaw04_RegsApart.l1, regs_Pair.f, wr0, wr1, wr2, wr3, wr4, wr5, wr6, wr7, wr8, j0, j1, j2, j3, jw, jv, ev]
theorem RegsApart (a0_0 a0_1 a0_2 a0_3 a0_4 a0_5 a0_6 a0_7 a0_8 a0_9 : Int) (a1 a2 a3 : Int) (w0_0 : (Lit.int .u8 a0_0).wf = true) (w0_1 : (Lit.int .u8 a0_1).wf = true) (w0_2 : (Lit.int .u8 a0_2).wf = true) (w0_3 : (Lit.int .u8 a0_3).wf = true) (w0_4 : (Lit.int .u8 a0_4).wf = true) (w0_5 : (Lit.int .u8 a0_5).wf = true) (w0_6 : (Lit.int .u8 a0_6).wf = true) (w0_7 : (Lit.int .u8 a0_7).wf = true) (w0_8 : (Lit.int .u16 a0_8).wf = true) (w0_9 : (Lit.int .u16 a0_9).wf = true) (w1 : (Lit.int .u8 a1).wf = true) (w2 : (Lit.int .u8 a2).wf = true) (w3 : (Lit.int .u16 a3).wf = true) : ∃ k, whirligiglaw04_RegsApart.f k a0_0 a0_1 a0_2 a0_3 a0_4 a0_5 a0_6 a0_7 a0_8 a0_9 a1 a2 a3 = some true := by
  have b0 := u8_bd w0_0
  have b1 := u8_bd w0_1
  have b2 := u8_bd w0_2
  have b3 := u8_bd w0_3
  have b4 := u8_bd w0_4
  have b5 := u8_bd w0_5
  have b6 := u8_bd w0_6
  have b7 := u8_bd w0_7
  have c1 := u8_bd w1
  have b3' := u16_bd w3
  have s0 := split_prog a3 b3'
  have s4 := split4 a3 b3'
  have e8 : wrap64 (Int.tmod a1 8) = a1 % 8 := by rw [Int.tmod_eq_emod_of_nonneg (by omega), wrap64_in (by omega)]
  have e5 : wrap64 (Int.tmod a1 5) = a1 % 5 := by rw [Int.tmod_eq_emod_of_nonneg (by omega), wrap64_in (by omega)]
  have h8 : a1 % 8 = 0 ∨ a1 % 8 = 1 ∨ a1 % 8 = 2 ∨ a1 % 8 = 3 ∨ a1 % 8 = 4 ∨ a1 % 8 = 5 ∨ a1 % 8 = 6 ∨ a1 % 8 = 7 := by omega
  have h5 : a1 % 5 = 0 ∨ a1 % 5 = 1 ∨ a1 % 5 = 2 ∨ a1 % 5 = 3 ∨ a1 % 5 = 4 := by omega
  refine ⟨90, ?_⟩
  unfold whirligiglaw04_RegsApart.f
  rw [shown_is, e8, e5]
  generalize a1 % 8 = k at *
  generalize a1 % 5 = q at *
  have p0 : regs_Put.f a0_0 a0_1 a0_2 a0_3 a0_4 a0_5 a0_6 a0_7 a0_8 a0_9 0 a2 = some (a0_0, a0_1, a2, a0_3, a0_4, a0_5, a0_6, a0_7, a0_8, a0_9, 0) := by simp [regs_Put.f]
  have p1 : regs_Put.f a0_0 a0_1 a0_2 a0_3 a0_4 a0_5 a0_6 a0_7 a0_8 a0_9 1 a2 = some (a0_0, a0_1, a0_2, a2, a0_4, a0_5, a0_6, a0_7, a0_8, a0_9, 0) := by simp [regs_Put.f]
  have p2 : regs_Put.f a0_0 a0_1 a0_2 a0_3 a0_4 a0_5 a0_6 a0_7 a0_8 a0_9 2 a2 = some (a0_0, a0_1, a0_2, a0_3, a2, a0_5, a0_6, a0_7, a0_8, a0_9, 0) := by simp [regs_Put.f]
  have p3 : regs_Put.f a0_0 a0_1 a0_2 a0_3 a0_4 a0_5 a0_6 a0_7 a0_8 a0_9 3 a2 = some (a0_0, a0_1, a0_2, a0_3, a0_4, a2, a0_6, a0_7, a0_8, a0_9, 0) := by simp [regs_Put.f]
  have p4 : regs_Put.f a0_0 a0_1 a0_2 a0_3 a0_4 a0_5 a0_6 a0_7 a0_8 a0_9 4 a2 = some (a0_0, a0_1, a0_2, a0_3, a0_4, a0_5, a2, a0_7, a0_8, a0_9, 0) := by simp [regs_Put.f]
  have p5 : regs_Put.f a0_0 a0_1 a0_2 a0_3 a0_4 a0_5 a0_6 a0_7 a0_8 a0_9 5 a2 = some (a0_0, a0_1, a0_2, a0_3, a0_4, a0_5, a0_6, a2, a0_8, a0_9, 0) := by simp [regs_Put.f]
  have p6 : regs_Put.f a0_0 a0_1 a0_2 a0_3 a0_4 a0_5 a0_6 a0_7 a0_8 a0_9 6 a2 = some (0, 0, 0, 0, 0, 0, 0, 0, 0, 0, 7) := by simp [regs_Put.f]
  have p7 : regs_Put.f a0_0 a0_1 a0_2 a0_3 a0_4 a0_5 a0_6 a0_7 a0_8 a0_9 7 a2 = some (a2, a0_1, a0_2, a0_3, a0_4, a0_5, a0_6, a0_7, a0_8, a0_9, 0) := by simp [regs_Put.f]
  have q0 : regs_PutPair.f a0_0 a0_1 a0_2 a0_3 a0_4 a0_5 a0_6 a0_7 a0_8 a0_9 0 a3 = some (a0_0, a0_1, (a3 / 256), (a3 % 256), a0_4, a0_5, a0_6, a0_7, a0_8, a0_9, 0) := by simp [regs_PutPair.f, s0, s4]
  have q1 : regs_PutPair.f a0_0 a0_1 a0_2 a0_3 a0_4 a0_5 a0_6 a0_7 a0_8 a0_9 1 a3 = some (a0_0, a0_1, a0_2, a0_3, (a3 / 256), (a3 % 256), a0_6, a0_7, a0_8, a0_9, 0) := by simp [regs_PutPair.f, s0, s4]
  have q2 : regs_PutPair.f a0_0 a0_1 a0_2 a0_3 a0_4 a0_5 a0_6 a0_7 a0_8 a0_9 2 a3 = some (a0_0, a0_1, a0_2, a0_3, a0_4, a0_5, (a3 / 256), (a3 % 256), a0_8, a0_9, 0) := by simp [regs_PutPair.f, s0, s4]
  have q3 : regs_PutPair.f a0_0 a0_1 a0_2 a0_3 a0_4 a0_5 a0_6 a0_7 a0_8 a0_9 3 a3 = some (a0_0, a0_1, a0_2, a0_3, a0_4, a0_5, a0_6, a0_7, a3, a0_9, 0) := by simp [regs_PutPair.f, s0, s4]
  have q4 : regs_PutPair.f a0_0 a0_1 a0_2 a0_3 a0_4 a0_5 a0_6 a0_7 a0_8 a0_9 4 a3 = some ((a3 / 256), (a3 % 256 / 16 * 16), a0_2, a0_3, a0_4, a0_5, a0_6, a0_7, a0_8, a0_9, 0) := by simp [regs_PutPair.f, s0, s4]
  rcases h8 with rfl | rfl | rfl | rfl | rfl | rfl | rfl | rfl <;> rcases h5 with rfl | rfl | rfl | rfl | rfl
  · rw [p0, q0]; simp only [Option.bind_some, if_true]; rw [apart0 (v := a2), bpart0 _ _ _ _ _ _ _ _ _ _ _ _ _ _ _ _ _ _ _ _ _ _ _ b0 b1 b2 b3 b4 b5 b6 b7 b3']; simp
  · rw [p0, q1]; simp only [Option.bind_some, if_true]; rw [apart0 (v := a2), bpart1 _ _ _ _ _ _ _ _ _ _ _ _ _ _ _ _ _ _ _ _ _ _ _ b0 b1 b2 b3 b4 b5 b6 b7 b3']; simp
  · rw [p0, q2]; simp only [Option.bind_some, if_true]; rw [apart0 (v := a2), bpart2 _ _ _ _ _ _ _ _ _ _ _ _ _ _ _ _ _ _ _ _ _ _ _ b0 b1 b2 b3 b4 b5 b6 b7 b3']; simp
  · rw [p0, q3]; simp only [Option.bind_some, if_true]; rw [apart0 (v := a2), bpart3 _ _ _ _ _ _ _ _ _ _ _ _ _ _ _ _ _ _ _ _ _ _ _ b0 b1 b2 b3 b4 b5 b6 b7 b3']; simp
  · rw [p0, q4]; simp only [Option.bind_some, if_true]; rw [apart0 (v := a2), bpart4 _ _ _ _ _ _ _ _ _ _ _ _ _ _ _ _ _ _ _ _ _ _ _ b0 b1 b2 b3 b4 b5 b6 b7 b3']; simp
  · rw [p1, q0]; simp only [Option.bind_some, if_true]; rw [apart1 (v := a2), bpart0 _ _ _ _ _ _ _ _ _ _ _ _ _ _ _ _ _ _ _ _ _ _ _ b0 b1 b2 b3 b4 b5 b6 b7 b3']; simp
  · rw [p1, q1]; simp only [Option.bind_some, if_true]; rw [apart1 (v := a2), bpart1 _ _ _ _ _ _ _ _ _ _ _ _ _ _ _ _ _ _ _ _ _ _ _ b0 b1 b2 b3 b4 b5 b6 b7 b3']; simp
  · rw [p1, q2]; simp only [Option.bind_some, if_true]; rw [apart1 (v := a2), bpart2 _ _ _ _ _ _ _ _ _ _ _ _ _ _ _ _ _ _ _ _ _ _ _ b0 b1 b2 b3 b4 b5 b6 b7 b3']; simp
  · rw [p1, q3]; simp only [Option.bind_some, if_true]; rw [apart1 (v := a2), bpart3 _ _ _ _ _ _ _ _ _ _ _ _ _ _ _ _ _ _ _ _ _ _ _ b0 b1 b2 b3 b4 b5 b6 b7 b3']; simp
  · rw [p1, q4]; simp only [Option.bind_some, if_true]; rw [apart1 (v := a2), bpart4 _ _ _ _ _ _ _ _ _ _ _ _ _ _ _ _ _ _ _ _ _ _ _ b0 b1 b2 b3 b4 b5 b6 b7 b3']; simp
  · rw [p2, q0]; simp only [Option.bind_some, if_true]; rw [apart2 (v := a2), bpart0 _ _ _ _ _ _ _ _ _ _ _ _ _ _ _ _ _ _ _ _ _ _ _ b0 b1 b2 b3 b4 b5 b6 b7 b3']; simp
  · rw [p2, q1]; simp only [Option.bind_some, if_true]; rw [apart2 (v := a2), bpart1 _ _ _ _ _ _ _ _ _ _ _ _ _ _ _ _ _ _ _ _ _ _ _ b0 b1 b2 b3 b4 b5 b6 b7 b3']; simp
  · rw [p2, q2]; simp only [Option.bind_some, if_true]; rw [apart2 (v := a2), bpart2 _ _ _ _ _ _ _ _ _ _ _ _ _ _ _ _ _ _ _ _ _ _ _ b0 b1 b2 b3 b4 b5 b6 b7 b3']; simp
  · rw [p2, q3]; simp only [Option.bind_some, if_true]; rw [apart2 (v := a2), bpart3 _ _ _ _ _ _ _ _ _ _ _ _ _ _ _ _ _ _ _ _ _ _ _ b0 b1 b2 b3 b4 b5 b6 b7 b3']; simp
  · rw [p2, q4]; simp only [Option.bind_some, if_true]; rw [apart2 (v := a2), bpart4 _ _ _ _ _ _ _ _ _ _ _ _ _ _ _ _ _ _ _ _ _ _ _ b0 b1 b2 b3 b4 b5 b6 b7 b3']; simp
  · rw [p3, q0]; simp only [Option.bind_some, if_true]; rw [apart3 (v := a2), bpart0 _ _ _ _ _ _ _ _ _ _ _ _ _ _ _ _ _ _ _ _ _ _ _ b0 b1 b2 b3 b4 b5 b6 b7 b3']; simp
  · rw [p3, q1]; simp only [Option.bind_some, if_true]; rw [apart3 (v := a2), bpart1 _ _ _ _ _ _ _ _ _ _ _ _ _ _ _ _ _ _ _ _ _ _ _ b0 b1 b2 b3 b4 b5 b6 b7 b3']; simp
  · rw [p3, q2]; simp only [Option.bind_some, if_true]; rw [apart3 (v := a2), bpart2 _ _ _ _ _ _ _ _ _ _ _ _ _ _ _ _ _ _ _ _ _ _ _ b0 b1 b2 b3 b4 b5 b6 b7 b3']; simp
  · rw [p3, q3]; simp only [Option.bind_some, if_true]; rw [apart3 (v := a2), bpart3 _ _ _ _ _ _ _ _ _ _ _ _ _ _ _ _ _ _ _ _ _ _ _ b0 b1 b2 b3 b4 b5 b6 b7 b3']; simp
  · rw [p3, q4]; simp only [Option.bind_some, if_true]; rw [apart3 (v := a2), bpart4 _ _ _ _ _ _ _ _ _ _ _ _ _ _ _ _ _ _ _ _ _ _ _ b0 b1 b2 b3 b4 b5 b6 b7 b3']; simp
  · rw [p4, q0]; simp only [Option.bind_some, if_true]; rw [apart4 (v := a2), bpart0 _ _ _ _ _ _ _ _ _ _ _ _ _ _ _ _ _ _ _ _ _ _ _ b0 b1 b2 b3 b4 b5 b6 b7 b3']; simp
  · rw [p4, q1]; simp only [Option.bind_some, if_true]; rw [apart4 (v := a2), bpart1 _ _ _ _ _ _ _ _ _ _ _ _ _ _ _ _ _ _ _ _ _ _ _ b0 b1 b2 b3 b4 b5 b6 b7 b3']; simp
  · rw [p4, q2]; simp only [Option.bind_some, if_true]; rw [apart4 (v := a2), bpart2 _ _ _ _ _ _ _ _ _ _ _ _ _ _ _ _ _ _ _ _ _ _ _ b0 b1 b2 b3 b4 b5 b6 b7 b3']; simp
  · rw [p4, q3]; simp only [Option.bind_some, if_true]; rw [apart4 (v := a2), bpart3 _ _ _ _ _ _ _ _ _ _ _ _ _ _ _ _ _ _ _ _ _ _ _ b0 b1 b2 b3 b4 b5 b6 b7 b3']; simp
  · rw [p4, q4]; simp only [Option.bind_some, if_true]; rw [apart4 (v := a2), bpart4 _ _ _ _ _ _ _ _ _ _ _ _ _ _ _ _ _ _ _ _ _ _ _ b0 b1 b2 b3 b4 b5 b6 b7 b3']; simp
  · rw [p5, q0]; simp only [Option.bind_some, if_true]; rw [apart5 (v := a2), bpart0 _ _ _ _ _ _ _ _ _ _ _ _ _ _ _ _ _ _ _ _ _ _ _ b0 b1 b2 b3 b4 b5 b6 b7 b3']; simp
  · rw [p5, q1]; simp only [Option.bind_some, if_true]; rw [apart5 (v := a2), bpart1 _ _ _ _ _ _ _ _ _ _ _ _ _ _ _ _ _ _ _ _ _ _ _ b0 b1 b2 b3 b4 b5 b6 b7 b3']; simp
  · rw [p5, q2]; simp only [Option.bind_some, if_true]; rw [apart5 (v := a2), bpart2 _ _ _ _ _ _ _ _ _ _ _ _ _ _ _ _ _ _ _ _ _ _ _ b0 b1 b2 b3 b4 b5 b6 b7 b3']; simp
  · rw [p5, q3]; simp only [Option.bind_some, if_true]; rw [apart5 (v := a2), bpart3 _ _ _ _ _ _ _ _ _ _ _ _ _ _ _ _ _ _ _ _ _ _ _ b0 b1 b2 b3 b4 b5 b6 b7 b3']; simp
  · rw [p5, q4]; simp only [Option.bind_some, if_true]; rw [apart5 (v := a2), bpart4 _ _ _ _ _ _ _ _ _ _ _ _ _ _ _ _ _ _ _ _ _ _ _ b0 b1 b2 b3 b4 b5 b6 b7 b3']; simp
  · rw [p6, q0]; simp only [Option.bind_some, if_true]; rw [apart6 (v := a2), bpart0 _ _ _ _ _ _ _ _ _ _ _ _ _ _ _ _ _ _ _ _ _ _ _ b0 b1 b2 b3 b4 b5 b6 b7 b3']; simp
  · rw [p6, q1]; simp only [Option.bind_some, if_true]; rw [apart6 (v := a2), bpart1 _ _ _ _ _ _ _ _ _ _ _ _ _ _ _ _ _ _ _ _ _ _ _ b0 b1 b2 b3 b4 b5 b6 b7 b3']; simp
  · rw [p6, q2]; simp only [Option.bind_some, if_true]; rw [apart6 (v := a2), bpart2 _ _ _ _ _ _ _ _ _ _ _ _ _ _ _ _ _ _ _ _ _ _ _ b0 b1 b2 b3 b4 b5 b6 b7 b3']; simp
  · rw [p6, q3]; simp only [Option.bind_some, if_true]; rw [apart6 (v := a2), bpart3 _ _ _ _ _ _ _ _ _ _ _ _ _ _ _ _ _ _ _ _ _ _ _ b0 b1 b2 b3 b4 b5 b6 b7 b3']; simp
  · rw [p6, q4]; simp only [Option.bind_some, if_true]; rw [apart6 (v := a2), bpart4 _ _ _ _ _ _ _ _ _ _ _ _ _ _ _ _ _ _ _ _ _ _ _ b0 b1 b2 b3 b4 b5 b6 b7 b3']; simp
  · rw [p7, q0]; simp only [Option.bind_some, if_true]; rw [apart7 (v := a2), bpart0 _ _ _ _ _ _ _ _ _ _ _ _ _ _ _ _ _ _ _ _ _ _ _ b0 b1 b2 b3 b4 b5 b6 b7 b3']; simp
  · rw [p7, q1]; simp only [Option.bind_some, if_true]; rw [apart7 (v := a2), bpart1 _ _ _ _ _ _ _ _ _ _ _ _ _ _ _ _ _ _ _ _ _ _ _ b0 b1 b2 b3 b4 b5 b6 b7 b3']; simp
  · rw [p7, q2]; simp only [Option.bind_some, if_true]; rw [apart7 (v := a2), bpart2 _ _ _ _ _ _ _ _ _ _ _ _ _ _ _ _ _ _ _ _ _ _ _ b0 b1 b2 b3 b4 b5 b6 b7 b3']; simp
  · rw [p7, q3]; simp only [Option.bind_some, if_true]; rw [apart7 (v := a2), bpart3 _ _ _ _ _ _ _ _ _ _ _ _ _ _ _ _ _ _ _ _ _ _ _ b0 b1 b2 b3 b4 b5 b6 b7 b3']; simp
  · rw [p7, q4]; simp only [Option.bind_some, if_true]; rw [apart7 (v := a2), bpart4 _ _ _ _ _ _ _ _ _ _ _ _ _ _ _ _ _ _ _ _ _ _ _ b0 b1 b2 b3 b4 b5 b6 b7 b3']; simp
end Go.Proofs.Ythkoofidnaghcaa.Pure
