/- The plain law of ClockBack: two clocks are found again in their bytes; a register that was written is read again so far as its bits go. -/
import Derived.Test.YtkfjofkocccefaaNum
import Derived.Test.YtkfjofkocccefaaG20
import Derived.Test.YtkfjofkocccefaaPureClockOfs
namespace Go.Proofs.Ytkfjofkocccefaa.Pure
open Go.RowKit Go.Proofs.Ytkfjofkocccefaa.G Go.Proofs.Ytkfjofkocccefaa.Hand
open Go.Proofs.YtkfjofkocccefaaW.PrintWords Go.Proofs.YtkfjofkocccefaaW.PrintLast Go.Proofs.YtkfjofkocccefaaW.PrintMore
set_option maxRecDepth 100000
set_option linter.unusedVariables false
set_option linter.unusedSimpArgs false
/-- The high register of a clock within its widths. -/
def highOf (d : Int) (a b : Bool) : Int := Go.bits .or .u8 (Go.bits .or .u8 ((d / 256) % 256) (if a = true then 64 else 0)) (if b = true then 128 else 0)
theorem high_facts : ∀ (v : Fin 512) (a b : Bool), 0 ≤ highOf (v.val : Int) a b ∧ highOf (v.val : Int) a b ≤ 255 ∧ highOf (v.val : Int) a b % 64 ≤ 1 ∧ highOf (v.val : Int) a b % 2 = (v.val : Int) / 256 ∧ (highOf (v.val : Int) a b / 64 % 2 == 1) = a ∧ decide (128 ≤ highOf (v.val : Int) a b) = b := by decide +kernel
theorem nm_five (c : C) (h : okC c) : five c = [c.1, c.2.1, c.2.2.1, c.2.2.2.1 % 256, highOf c.2.2.2.1 c.2.2.2.2.1 c.2.2.2.2.2] := by
  unfold five
  rw [nm_of h]
  rfl
theorem of5_five (c : C) (h : okC c) : of5 c.1 c.2.1 c.2.2.1 (c.2.2.2.1 % 256) (highOf c.2.2.2.1 c.2.2.2.2.1 c.2.2.2.2.2) = c := by
  obtain ⟨s, m, hh, d, a, b⟩ := c
  unfold okC at h; dsimp only at h
  obtain ⟨b1, b2, b3, b4⟩ := h
  obtain ⟨v, rfl⟩ := d_fin b4
  obtain ⟨f0, f1, f2, f3, f4, f5⟩ := high_facts v a b
  unfold of5
  dsimp only
  rw [f3, f4, f5, show s % 64 = s by omega, show m % 64 = m by omega, show hh % 32 = hh by omega, show (v.val : Int) % 256 + (v.val : Int) / 256 * 256 = (v.val : Int) by omega]
theorem of_bytes (c b : C) (hc : wide c) (hb : wide b) : clock_Of.f (five c ++ five b) = some ((nm c).1, (nm c).2.1, (nm c).2.2.1, (nm c).2.2.2.1, (nm c).2.2.2.2.1, (nm c).2.2.2.2.2, (nm b).1, (nm b).2.1, (nm b).2.2.1, (nm b).2.2.2.1, (nm b).2.2.2.2.1, (nm b).2.2.2.2.2, 0) := by
  have e1 : five c = five (nm c) := by unfold five; rw [nm_of (nm_ok c)]
  have e2 : five b = five (nm b) := by unfold five; rw [nm_of (nm_ok b)]
  rw [e1, e2, nm_five _ (nm_ok c), nm_five _ (nm_ok b)]
  have o1 := of5_five _ (nm_ok c)
  have o2 := of5_five _ (nm_ok b)
  have h1 := nm_ok c
  have h2 := nm_ok b
  generalize nm c = x at h1 o1 ⊢
  generalize nm b = y at h2 o2 ⊢
  unfold okC at h1 h2
  obtain ⟨b1, b2, b3, b4⟩ := h1
  obtain ⟨c1, c2, c3, c4⟩ := h2
  obtain ⟨v, ev⟩ := d_fin b4
  obtain ⟨u, eu⟩ := d_fin c4
  have F := high_facts v x.2.2.2.2.1 x.2.2.2.2.2
  have G := high_facts u y.2.2.2.2.1 y.2.2.2.2.2
  rw [← ev] at F
  rw [← eu] at G
  obtain ⟨f0, f1, f2, _, _, _⟩ := F
  obtain ⟨g0, g1, g2, _, _, _⟩ := G
  show clock_Of.f [x.1, x.2.1, x.2.2.1, x.2.2.2.1 % 256, highOf x.2.2.2.1 x.2.2.2.2.1 x.2.2.2.2.2, y.1, y.2.1, y.2.2.1, y.2.2.2.1 % 256, highOf y.2.2.2.1 y.2.2.2.2.1 y.2.2.2.2.2] = _
  rw [of_prog _ _ _ _ _ _ _ _ _ _ (by omega) (by omega) (by omega) (by omega) ⟨f0, f1⟩ (by omega) (by omega) (by omega) (by omega) ⟨g0, g1⟩, if_pos ⟨⟨by omega, by omega, by omega, f2⟩, ⟨by omega, by omega, by omega, g2⟩⟩, o1, o2]
/-- What the law asks of one register i, where k was told v. -/
def regOk (a x : C) (k v i : Int) : Prop := (if i = k then Go.bits .or .u8 (rdC x i).1 v = v else (rdC x i).1 = (rdC a i).1)
theorem rdC_ok (c : C) (i : Int) (h : 8 ≤ i ∧ i ≤ 12) : (rdC c i).2 = 0 := by
  unfold rdC
  split
  · rfl
  split
  · rfl
  split
  · rfl
  split
  · rfl
  split
  · rfl
  · omega
theorem l0_step (K : Nat) (a b p q x : C) (v : Int) (sh : Bool) (e f k i : Int) (ha : wide a) (hx : okC x) (hi : 8 ≤ i ∧ i ≤ 12) (hr : regOk (nm a) x k v i) :
    whirligiglaw09_ClockBack.l0 (K + 1) v sh e k f i a.1 a.2.1 a.2.2.1 a.2.2.2.1 a.2.2.2.2.1 a.2.2.2.2.2 b.1 b.2.1 b.2.2.1 b.2.2.2.1 b.2.2.2.2.1 b.2.2.2.2.2 p.1 p.2.1 p.2.2.1 p.2.2.2.1 p.2.2.2.2.1 p.2.2.2.2.2 q.1 q.2.1 q.2.2.1 q.2.2.2.1 q.2.2.2.2.1 q.2.2.2.2.2 x.1 x.2.1 x.2.2.1 x.2.2.2.1 x.2.2.2.2.1 x.2.2.2.2.2 =
    whirligiglaw09_ClockBack.l0 K v sh e k f (i + 1) a.1 a.2.1 a.2.2.1 a.2.2.2.1 a.2.2.2.2.1 a.2.2.2.2.2 b.1 b.2.1 b.2.2.1 b.2.2.2.1 b.2.2.2.2.1 b.2.2.2.2.2 p.1 p.2.1 p.2.2.1 p.2.2.2.1 p.2.2.2.2.1 p.2.2.2.2.2 q.1 q.2.1 q.2.2.1 q.2.2.2.1 q.2.2.2.2.1 q.2.2.2.2.2 x.1 x.2.1 x.2.2.1 x.2.2.2.1 x.2.2.2.2.1 x.2.2.2.2.2 := by
  rw [whirligiglaw09_ClockBack.l0]
  rw [if_pos hi.2, read_prog a ha i, read_prog x hx.wide i, nm_of hx]
  simp only [Option.bind_some]
  rw [if_pos (rdC_ok _ i hi), if_pos (rdC_ok _ i hi), wrap64_in (by omega)]
  unfold regOk at hr
  by_cases hk : i = k
  · rw [if_pos hk] at hr ⊢
    rw [if_pos hr]
  · rw [if_neg hk] at hr ⊢
    rw [if_pos hr]
theorem or_low : ∀ v : Fin 256, Go.bits .or .u8 ((v.val : Int) % 64) (v.val : Int) = (v.val : Int) ∧ Go.bits .or .u8 ((v.val : Int) % 32) (v.val : Int) = (v.val : Int) ∧ Go.bits .or .u8 (v.val : Int) (v.val : Int) = (v.val : Int) ∧ Go.bits .or .u8 (highOf ((v.val : Int) % 2 * 256) ((v.val : Int) / 64 % 2 == 1) (decide (128 ≤ (v.val : Int)))) (v.val : Int) = (v.val : Int) := by decide +kernel
theorem high_mid (d e : Int) (a b : Bool) (h : 0 ≤ d ∧ d < 256) : highOf (d + e * 256) a b = highOf (e * 256) a b := by
  unfold highOf
  rw [show (d + e * 256) / 256 = e * 256 / 256 by omega]
/-- Each register behind a write. -/
theorem all_regs (a : C) (k v : Int) (hv : 0 ≤ v ∧ v ≤ 255) (ha : okC a) (hk : k = 8 ∨ k = 9 ∨ k = 10 ∨ k = 11 ∨ k = 12) (i : Int) (hi : 8 ≤ i ∧ i ≤ 12) : regOk a (wrC a k v).1 k v i := by
  obtain ⟨s, m, hh, d, h, c⟩ := a
  unfold okC at ha; dsimp only at ha
  obtain ⟨b1, b2, b3, b4⟩ := ha
  obtain ⟨u, eu⟩ := byte_fin hv
  obtain ⟨o1, o2, o3, o4⟩ := or_low u
  rw [← eu] at o1 o2 o3 o4
  have hi5 : i = 8 ∨ i = 9 ∨ i = 10 ∨ i = 11 ∨ i = 12 := by omega
  clear eu
  rcases hk with rfl | rfl | rfl | rfl | rfl <;> rcases hi5 with rfl | rfl | rfl | rfl | rfl <;> simp only [regOk, wrC, rdC, if_true, reduceIte, Int.reduceEq] <;> first | exact o1 | exact o2 | rfl | skip
  · rw [show (d / 256 * 256 + v) % 256 = v by omega]; exact o3
  · rw [show (d / 256 * 256 + v) / 256 = d / 256 by omega]
  · omega
  · have e := high_mid (d % 256) (v % 2) (v / 64 % 2 == 1) (decide (128 ≤ v)) (by omega)
    unfold highOf at e o4
    rw [e]; exact o4
/-- What was read of the register that was told, told again, changes nothing. -/
theorem again (a : C) (k v : Int) (hv : 0 ≤ v ∧ v ≤ 255) (ha : okC a) (hk : k = 8 ∨ k = 9 ∨ k = 10 ∨ k = 11 ∨ k = 12) : wrC a k (rdC a k).1 = (a, 0) := by
  obtain ⟨s, m, hh, d, h, c⟩ := a
  unfold okC at ha; dsimp only at ha
  obtain ⟨b1, b2, b3, b4⟩ := ha
  rcases hk with rfl | rfl | rfl | rfl | rfl <;> simp only [wrC, rdC, if_true, reduceIte, Int.reduceEq]
  · rw [show s % 64 = s by omega]
  · rw [show m % 64 = m by omega]
  · rw [show hh % 32 = hh by omega]
  · rw [show d / 256 * 256 + d % 256 = d by omega]
  · obtain ⟨u, rfl⟩ := d_fin b4
    obtain ⟨f0, f1, f2, f3, f4, f5⟩ := high_facts u h c
    unfold highOf at f0 f1 f2 f3 f4 f5
    rw [f3, f4, f5, show (u.val : Int) % 256 + (u.val : Int) / 256 * 256 = (u.val : Int) by omega]
theorem rdC_bd (a : C) (ha : okC a) (k : Int) : 0 ≤ (rdC a k).1 ∧ (rdC a k).1 ≤ 255 := by
  obtain ⟨s, m, hh, d, h, c⟩ := a
  unfold okC at ha; dsimp only at ha
  obtain ⟨b1, b2, b3, b4⟩ := ha
  obtain ⟨u, rfl⟩ := d_fin b4
  obtain ⟨f0, f1, _⟩ := high_facts u h c
  unfold highOf at f0 f1
  unfold rdC; dsimp only
  split
  · dsimp only; omega
  split
  · dsimp only; omega
  split
  · dsimp only; omega
  split
  · dsimp only; omega
  split
  · exact ⟨f0, f1⟩
  · dsimp only; omega
theorem l0_end (K : Nat) (a b p q x : C) (v k : Int) (ha : wide a) (hb : wide b) (hx : okC x) (hk : k = 8 ∨ k = 9 ∨ k = 10 ∨ k = 11 ∨ k = 12) (hp : p = nm a) (hq : q = nm b) :
    whirligiglaw09_ClockBack.l0 (K + 1) v true 0 k 0 13 a.1 a.2.1 a.2.2.1 a.2.2.2.1 a.2.2.2.2.1 a.2.2.2.2.2 b.1 b.2.1 b.2.2.1 b.2.2.2.1 b.2.2.2.2.1 b.2.2.2.2.2 p.1 p.2.1 p.2.2.1 p.2.2.2.1 p.2.2.2.2.1 p.2.2.2.2.2 q.1 q.2.1 q.2.2.1 q.2.2.2.1 q.2.2.2.2.1 q.2.2.2.2.2 x.1 x.2.1 x.2.2.1 x.2.2.2.1 x.2.2.2.2.1 x.2.2.2.2.2 = some true := by
  rw [whirligiglaw09_ClockBack.l0]
  rw [if_neg (by decide), read_prog x hx.wide k, nm_of hx]
  simp only [Option.bind_some]
  rw [write_ok x hx k _ (rdC_bd x hx k), again x k 0 (by decide) hx hk, norm_prog a ha, norm_prog b hb, hp, hq]
  simp [fl2]
theorem ClockBack (s m h d : Int) (ht cy : Bool) (s' m' h' d' : Int) (ht' cy' : Bool) (r v : Int) (w0 : (Lit.int .u8 s).wf = true) (w1 : (Lit.int .u8 m).wf = true) (w2 : (Lit.int .u8 h).wf = true) (w3 : (Lit.int .u16 d).wf = true) (w4 : (Lit.int .u8 s').wf = true) (w5 : (Lit.int .u8 m').wf = true) (w6 : (Lit.int .u8 h').wf = true) (w7 : (Lit.int .u16 d').wf = true) (w8 : (Lit.int .u8 r).wf = true) (w9 : (Lit.int .u8 v).wf = true) : ∃ k, whirligiglaw09_ClockBack.f k s m h d ht cy s' m' h' d' ht' cy' r v = some true := by
  have hc : wide (s, m, h, d, ht, cy) := ⟨u8_bd w0, u8_bd w1, u8_bd w2, u16_bd w3⟩
  have hb : wide (s', m', h', d', ht', cy') := ⟨u8_bd w4, u8_bd w5, u8_bd w6, u16_bd w7⟩
  have hr := u8_bd w8
  have hv := u8_bd w9
  refine ⟨6, ?_⟩
  have e1 := bytes_prog _ _ hc hb
  have e2 := of_bytes _ _ hc hb
  have ek : wrap64 (8 + wrap64 (Int.tmod r 5)) = 8 + r % 5 := by
    rw [Int.tmod_eq_emod_of_nonneg hr.1, wrap64_in (x := r % 5) (by omega), wrap64_in (by omega)]
  have hk : 8 + r % 5 = 8 ∨ 8 + r % 5 = 9 ∨ 8 + r % 5 = 10 ∨ 8 + r % 5 = 11 ∨ 8 + r % 5 = 12 := by omega
  have e3 := write_prog _ hc (8 + r % 5) v hv
  dsimp only at e1 e2 e3
  unfold whirligiglaw09_ClockBack.f
  rw [shown_is, e1]
  simp only [Option.bind_some]
  rw [e2]
  simp only [Option.bind_some]
  rw [ek, e3]
  simp only [Option.bind_some]
  have hx := wrC_ok (nm_ok (s, m, h, d, ht, cy)) hv (8 + r % 5)
  have hR := all_regs _ (8 + r % 5) v hv (nm_ok (s, m, h, d, ht, cy)) hk
  have hw2 : (wrC (nm (s, m, h, d, ht, cy)) (8 + r % 5) v).2 = 0 := by
    rcases hk with e | e | e | e | e <;> rw [e] <;> rfl
  generalize 8 + r % 5 = k at hk hx hR hw2 ⊢
  unfold fl2
  dsimp only
  rw [hw2]
  generalize (wrC (nm (s, m, h, d, ht, cy)) k v).1 = x at hx hR ⊢
  have g0 := l0_step 5 (s, m, h, d, ht, cy) (s', m', h', d', ht', cy') (nm (s, m, h, d, ht, cy)) (nm (s', m', h', d', ht', cy')) x v true 0 0 k 8 hc hx (by decide) (hR 8 (by decide))
  have g1 := l0_step 4 (s, m, h, d, ht, cy) (s', m', h', d', ht', cy') (nm (s, m, h, d, ht, cy)) (nm (s', m', h', d', ht', cy')) x v true 0 0 k 9 hc hx (by decide) (hR 9 (by decide))
  have g2 := l0_step 3 (s, m, h, d, ht, cy) (s', m', h', d', ht', cy') (nm (s, m, h, d, ht, cy)) (nm (s', m', h', d', ht', cy')) x v true 0 0 k 10 hc hx (by decide) (hR 10 (by decide))
  have g3 := l0_step 2 (s, m, h, d, ht, cy) (s', m', h', d', ht', cy') (nm (s, m, h, d, ht, cy)) (nm (s', m', h', d', ht', cy')) x v true 0 0 k 11 hc hx (by decide) (hR 11 (by decide))
  have g4 := l0_step 1 (s, m, h, d, ht, cy) (s', m', h', d', ht', cy') (nm (s, m, h, d, ht, cy)) (nm (s', m', h', d', ht', cy')) x v true 0 0 k 12 hc hx (by decide) (hR 12 (by decide))
  have g5 := l0_end 0 (s, m, h, d, ht, cy) (s', m', h', d', ht', cy') (nm (s, m, h, d, ht, cy)) (nm (s', m', h', d', ht', cy')) x v k hc hb hx hk rfl rfl
  exact g0.trans (g1.trans (g2.trans (g3.trans (g4.trans g5))))
end Go.Proofs.Ytkfjofkocccefaa.Pure
