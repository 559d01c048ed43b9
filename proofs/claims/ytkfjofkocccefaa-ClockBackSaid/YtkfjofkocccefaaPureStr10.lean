/- Ten bytes as a string are equal just where the bytes are. -/
import Derived.Test.YtkfjofkocccefaaNum
import Derived.Test.YtkfjofkocccefaaHBytes
namespace Go.Proofs.Ytkfjofkocccefaa.Pure
open Go.RowKit Go.Proofs.Ytkfjofkocccefaa.G Go.Proofs.Ytkfjofkocccefaa.Hand
set_option maxRecDepth 100000
set_option linter.unusedVariables false
set_option linter.unusedSimpArgs false
theorem str10 (a0 a1 a2 a3 a4 a5 a6 a7 a8 a9 : Int) : (strOfNums [a0, a1, a2, a3, a4, a5, a6, a7, a8, a9]).toList = [UInt8.ofNat a0.toNat, UInt8.ofNat a1.toNat, UInt8.ofNat a2.toNat, UInt8.ofNat a3.toNat, UInt8.ofNat a4.toNat, UInt8.ofNat a5.toNat, UInt8.ofNat a6.toNat, UInt8.ofNat a7.toNat, UInt8.ofNat a8.toNat, UInt8.ofNat a9.toNat] := by
  simp [strOfNums, ByteArray.toList, ByteArray.toList.loop, ByteArray.size, ByteArray.get!]
theorem u8_inj {x y : Int} (hx : 0 ≤ x ∧ x ≤ 255) (hy : 0 ≤ y ∧ y ≤ 255) (h : UInt8.ofNat x.toNat = UInt8.ofNat y.toNat) : x = y := by
  have h1 := congrArg UInt8.toNat h
  rw [UInt8.toNat_ofNat', UInt8.toNat_ofNat'] at h1
  omega
theorem str10_eq (a0 a1 a2 a3 a4 a5 a6 a7 a8 a9 b0 b1 b2 b3 b4 b5 b6 b7 b8 b9 : Int) (p0 : 0 ≤ a0 ∧ a0 ≤ 255) (p1 : 0 ≤ a1 ∧ a1 ≤ 255) (p2 : 0 ≤ a2 ∧ a2 ≤ 255) (p3 : 0 ≤ a3 ∧ a3 ≤ 255) (p4 : 0 ≤ a4 ∧ a4 ≤ 255) (p5 : 0 ≤ a5 ∧ a5 ≤ 255) (p6 : 0 ≤ a6 ∧ a6 ≤ 255) (p7 : 0 ≤ a7 ∧ a7 ≤ 255) (p8 : 0 ≤ a8 ∧ a8 ≤ 255) (p9 : 0 ≤ a9 ∧ a9 ≤ 255) (q0 : 0 ≤ b0 ∧ b0 ≤ 255) (q1 : 0 ≤ b1 ∧ b1 ≤ 255) (q2 : 0 ≤ b2 ∧ b2 ≤ 255) (q3 : 0 ≤ b3 ∧ b3 ≤ 255) (q4 : 0 ≤ b4 ∧ b4 ≤ 255) (q5 : 0 ≤ b5 ∧ b5 ≤ 255) (q6 : 0 ≤ b6 ∧ b6 ≤ 255) (q7 : 0 ≤ b7 ∧ b7 ≤ 255) (q8 : 0 ≤ b8 ∧ b8 ≤ 255) (q9 : 0 ≤ b9 ∧ b9 ≤ 255) : ((strOfNums [a0, a1, a2, a3, a4, a5, a6, a7, a8, a9]).toList == (strOfNums [b0, b1, b2, b3, b4, b5, b6, b7, b8, b9]).toList) = true ↔ [a0, a1, a2, a3, a4, a5, a6, a7, a8, a9] = [b0, b1, b2, b3, b4, b5, b6, b7, b8, b9] := by
  rw [str10, str10, beq_iff_eq]
  constructor
  · intro h
    simp only [List.cons.injEq, and_true] at h ⊢
    obtain ⟨h0, h1, h2, h3, h4, h5, h6, h7, h8, h9⟩ := h
    exact ⟨u8_inj p0 q0 h0, u8_inj p1 q1 h1, u8_inj p2 q2 h2, u8_inj p3 q3 h3, u8_inj p4 q4 h4, u8_inj p5 q5 h5, u8_inj p6 q6 h6, u8_inj p7 q7 h7, u8_inj p8 q8 h8, u8_inj p9 q9 h9⟩
  · intro h
    simp only [List.cons.injEq, and_true] at h
    obtain ⟨rfl, rfl, rfl, rfl, rfl, rfl, rfl, rfl, rfl, rfl⟩ := h
    rfl
end Go.Proofs.Ytkfjofkocccefaa.Pure
