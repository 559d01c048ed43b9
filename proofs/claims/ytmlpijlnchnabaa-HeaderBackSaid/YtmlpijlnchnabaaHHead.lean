/- header.Parse by hand: the contract. -/
import Derived.Test.YtmlpijlnchnabaaHHeadParse
import Derived.Test.YtmlpijlnchnabaaHHeadOk
import Derived.Handy
namespace Go.Proofs.Ytmlpijlnchnabaa.Hand
open Go.RowKit
open Go.Proofs.Ytmlpijlnchnabaa.G
open Go.Proofs.YtmlpijlnchnabaaW.PrintWords Go.Proofs.YtmlpijlnchnabaaW.PrintLast Go.Proofs.YtmlpijlnchnabaaW.PrintMore
set_option linter.unusedVariables false
set_option linter.unusedSimpArgs false
set_option maxRecDepth 100000 in
set_option maxHeartbeats 4000000 in
theorem hparse_short (A : Option Addr) (c : Nat) (l : List Int) (hl : ¬ (336 : Int) ≤ l.length) (w : World) :
    Calls Try.prog 10 #[.slice A l.length c] w fun e' w' => e' = .returned (.tuple #[.agg #[.string ⟨#[]⟩, .int .u8 0, .int .i64 0, .bool false, .bool false, .bool false, .int .i64 0, .int .i64 0, .int .u8 0, .int .u16 0], .int .i64 2]) ∧ Below w.heap.size w w' := by
  have hmf : ∀ (fn : Fn) (first cap : Array Value) (w : World), (Instr.makeFunc fn first cap).run Try.prog w = .ok (.func fn first cap) w := fun _ _ _ _ => rfl
  go_enter_defers Try.func10, Try.ntmps10
  go_wp2_with fail
  have z0 := blk_alloc (blk_new w (.cells #[.string ⟨#[]⟩, .int .u8 0, .int .i64 0, .bool false, .bool false, .bool false, .int .i64 0, .int .i64 0, .int .u8 0, .int .u16 0] 26)) (.cells #[.int .i64 0] 27)
  have z1 := heap_alloc_new (w.alloc (.cells #[.string ⟨#[]⟩, .int .u8 0, .int .i64 0, .bool false, .bool false, .bool false, .int .i64 0, .int .i64 0, .int .u8 0, .int .u16 0] 26)) (.cells #[.int .i64 0] 27)
  rw [show (w.alloc (.cells #[.string ⟨#[]⟩, .int .u8 0, .int .i64 0, .bool false, .bool false, .bool false, .int .i64 0, .int .i64 0, .int .u8 0, .int .u16 0] 26)).heap.size = w.heap.size + 1 by simp] at z1
  have z2 := below_alloc (below_alloc (Below.refl w.heap.size w) (.cells #[.string ⟨#[]⟩, .int .u8 0, .int .i64 0, .bool false, .bool false, .bool false, .int .i64 0, .int .i64 0, .int .u8 0, .int .u16 0] 26)) (.cells #[.int .i64 0] 27)
  generalize (w.alloc (.cells #[.string ⟨#[]⟩, .int .u8 0, .int .i64 0, .bool false, .bool false, .bool false, .int .i64 0, .int .i64 0, .int .u8 0, .int .u16 0] 26)).alloc (.cells #[.int .i64 0] 27) = W0 at z0 z1 z2 ⊢
  refine (need_no 2 _).mono ?_
  rintro e' w' ⟨rfl, hw⟩
  replace hw := hw.symm
  subst hw
  refine leaves_cons (f := 18) (args := #[.pointer (some ⟨w.heap.size + 1, 0, none⟩)]) (by simp) (by simp [go_sem]) ?_
  refine (parse_panicking ⟨w.heap.size + 1, 0, none⟩ 0 2 [] _ ((blk_cell (z1) 0).trans rfl) (blk_frozen (z1) 0)).mono ?_
  rintro e u' w'' ⟨rfl, rfl, rfl⟩
  have m0 : ((W0).setCell ⟨w.heap.size + 1, 0, none⟩ (.int .i64 2)).heap[w.heap.size]? = some (.cells #[.string ⟨#[]⟩, .int .u8 0, .int .i64 0, .bool false, .bool false, .bool false, .int .i64 0, .int .i64 0, .int .u8 0, .int .u16 0] 26 (0, 0)) := blk_far (z0) (by simp) _
  have m1 : ((W0).setCell ⟨w.heap.size + 1, 0, none⟩ (.int .i64 2)).heap[w.heap.size + 1]? = some (.cells #[.int .i64 2] 27 (0, 0)) := blk_put (z1) 0 _ rfl
  have m2 : Below w.heap.size w ((W0).setCell ⟨w.heap.size + 1, 0, none⟩ (.int .i64 2)) := below_set (z2) (Nat.le_succ _)
  generalize ((W0).setCell ⟨w.heap.size + 1, 0, none⟩ (.int .i64 2)) = Y at m0 m1 m2 ⊢
  have u0 : Y.cell? ⟨w.heap.size, 0, none⟩ = some (.string ⟨#[]⟩) := (blk_cell m0 0).trans rfl
  have u1 : Y.cell? ⟨w.heap.size, 1, none⟩ = some (.int .u8 0) := (blk_cell m0 1).trans rfl
  have u2 : Y.cell? ⟨w.heap.size, 2, none⟩ = some (.int .i64 0) := (blk_cell m0 2).trans rfl
  have u3 : Y.cell? ⟨w.heap.size, 3, none⟩ = some (.bool false) := (blk_cell m0 3).trans rfl
  have u4 : Y.cell? ⟨w.heap.size, 4, none⟩ = some (.bool false) := (blk_cell m0 4).trans rfl
  have u5 : Y.cell? ⟨w.heap.size, 5, none⟩ = some (.bool false) := (blk_cell m0 5).trans rfl
  have u6 : Y.cell? ⟨w.heap.size, 6, none⟩ = some (.int .i64 0) := (blk_cell m0 6).trans rfl
  have u7 : Y.cell? ⟨w.heap.size, 7, none⟩ = some (.int .i64 0) := (blk_cell m0 7).trans rfl
  have u8 : Y.cell? ⟨w.heap.size, 8, none⟩ = some (.int .u8 0) := (blk_cell m0 8).trans rfl
  have u9 : Y.cell? ⟨w.heap.size, 9, none⟩ = some (.int .u16 0) := (blk_cell m0 9).trans rfl
  have v0 : Y.cell? ⟨w.heap.size + 1, 0, none⟩ = some (.int .i64 2) := (blk_cell m1 0).trans rfl
  simp [Leaves, settle, results, Try.results10, go_sem, u0, u1, u2, u3, u4, u5, u6, u7, u8, u9, v0, m2]
def header_Parse.f (l : List Int) : Option (ByteArray × Int × Int × Bool × Bool × Bool × Int × Int × Int × Int × Int) :=
  if (336 : Int) ≤ l.length then
    if 0 ≤ rd l 327 ∧ rd l 327 ≤ 255 ∧ 0 ≤ rd l 328 ∧ 0 ≤ rd l 329 then
      if (wareT (rd l 327)).2.2.2.2 = true then
        if rd l 328 ≤ 8 ∧ rd l 329 ≤ 5 ∧ (l.length : Int) ≤ shl .i64 32768 (rd l 328) then
          if rd l 333 = sumTo l 25 then some ((strOfNums ((l.take (308 + titleN l)).drop 308)), rd l 327, (wareT (rd l 327)).1, (wareT (rd l 327)).2.1, (wareT (rd l 327)).2.2.1, (wareT (rd l 327)).2.2.2.1, wrap64 (2 * 2 ^ min (rd l 328).toNat 64), ramT (wareT (rd l 327)).2.1 (rd l 329), rd l 333, (Go.bits .or .u16 (IntKind.u16.wrap (IntKind.u16.wrap (rd l 334) * 256)) (IntKind.u16.wrap (rd l 335))), 0) else some ((⟨#[]⟩ : ByteArray), 0, 0, false, false, false, 0, 0, 0, 0, 3)
        else some ((⟨#[]⟩ : ByteArray), 0, 0, false, false, false, 0, 0, 0, 0, 5)
      else some ((⟨#[]⟩ : ByteArray), 0, 0, false, false, false, 0, 0, 0, 0, 4)
    else none
  else some ((⟨#[]⟩ : ByteArray), 0, 0, false, false, false, 0, 0, 0, 0, 2)
theorem header_Parse.calls (A0 : Option Addr) (c0 : Nat) (l0 : List Int) (r1 : ByteArray) (r2 : Int) (r3 : Int) (r4 : Bool) (r5 : Bool) (r6 : Bool) (r7 : Int) (r8 : Int) (r9 : Int) (r10 : Int) (r11 : Int) (w : World) (hr0 : Kd.C (Kd.int .u8) w A0 l0.length l0) (hc0 : l0.length ≤ c0) (h : header_Parse.f l0 = some (r1, r2, r3, r4, r5, r6, r7, r8, r9, r10, r11)) :
    Calls Try.prog 10 #[.slice A0 l0.length c0] w fun e w' => e = .returned (.tuple #[.agg #[.string r1, .int .u8 r2, .int .i64 r3, .bool r4, .bool r5, .bool r6, .int .i64 r7, .int .i64 r8, .int .u8 r9, .int .u16 r10], .int .i64 r11]) ∧ Below w.heap.size w w' := by
  unfold header_Parse.f at h
  by_cases hl : (336 : Int) ≤ l0.length
  case neg =>
    rw [if_neg hl] at h
    cases h
    exact hparse_short A0 c0 l0 hl w
  rw [if_pos hl] at h
  by_cases hk : 0 ≤ rd l0 327 ∧ rd l0 327 ≤ 255 ∧ 0 ≤ rd l0 328 ∧ 0 ≤ rd l0 329
  case neg => rw [if_neg hk] at h; cases h
  rw [if_pos hk] at h
  obtain ⟨k1, k2, k3, k4⟩ := hk
  have hn : 336 ≤ l0.length := by omega
  by_cases hok : (wareT (rd l0 327)).2.2.2.2 = true
  case neg =>
    rw [if_neg hok] at h
    cases h
    exact hparse_kind A0 c0 l0 hn w hr0 hc0 ⟨k1, k2⟩ (Bool.eq_false_iff.mpr hok)
  rw [if_pos hok] at h
  by_cases h8 : rd l0 328 ≤ 8
  case neg =>
    rw [if_neg (fun z => h8 z.1)] at h
    cases h
    exact hparse_size_a A0 c0 l0 hn w hr0 hc0 ⟨k1, k2⟩ hok (decide_eq_false h8)
  by_cases h5 : rd l0 329 ≤ 5
  case neg =>
    rw [if_neg (fun z => h5 z.2.1)] at h
    cases h
    exact hparse_size_b A0 c0 l0 hn w hr0 hc0 ⟨k1, k2⟩ hok (decide_eq_true h8) (decide_eq_false h5)
  by_cases hm : (l0.length : Int) ≤ shl .i64 32768 (rd l0 328)
  case neg =>
    rw [if_neg (fun z => hm z.2.2)] at h
    cases h
    exact hparse_size_c A0 c0 l0 hn w hr0 hc0 ⟨k1, k2⟩ hok k3 (decide_eq_true h8) (decide_eq_true h5) (decide_eq_false hm)
  rw [if_pos ⟨h8, h5, hm⟩] at h
  by_cases hs : rd l0 333 = sumTo l0 25
  case neg =>
    rw [if_neg hs] at h
    cases h
    exact hparse_sum A0 c0 l0 hn w hr0 hc0 ⟨k1, k2⟩ hok k3 (decide_eq_true h8) (decide_eq_true h5) (decide_eq_true hm) (beq_eq_false_iff_ne.mpr hs)
  rw [if_pos hs] at h
  cases h
  have q := hparse_ok A0 c0 l0 hn w hr0 hc0 ⟨k1, k2⟩ hok k3 (decide_eq_true h8) (decide_eq_true h5) (decide_eq_true hm) k4 (beq_iff_eq.mpr hs)
  exact q
end Go.Proofs.Ytmlpijlnchnabaa.Hand
