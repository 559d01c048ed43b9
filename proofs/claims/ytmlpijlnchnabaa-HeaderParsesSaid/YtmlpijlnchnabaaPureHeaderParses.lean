/- The plain law of HeaderParses: what an image's head says, or why it is refused, is as the document says. -/
import Derived.Test.YtmlpijlnchnabaaPure07
import Derived.Test.YtmlpijlnchnabaaHHead
import Derived.Test.YtmlpijlnchnabaaG15
namespace Go.Proofs.Ytmlpijlnchnabaa.Pure
open Go.RowKit Go.Proofs.Ytmlpijlnchnabaa.G Go.Proofs.Ytmlpijlnchnabaa.Hand
open Go.Proofs.YtmlpijlnchnabaaW.PrintWords Go.Proofs.YtmlpijlnchnabaaW.PrintLast Go.Proofs.YtmlpijlnchnabaaW.PrintMore
set_option maxRecDepth 100000
set_option linter.unusedVariables false
set_option linter.unusedSimpArgs false
theorem more {α : Type} {f : Nat → Option α} (mono : ∀ k, LeO (f k) (f (k + 1))) {K : Nat} {r : α} (h : f K = some r) (k : Nat) (hk : K ≤ k) : f k = some r := by
  obtain ⟨j, rfl⟩ := Nat.exists_eq_add_of_le hk
  induction j with
  | zero => exact h
  | succ j ih => exact mono _ _ (ih (by omega))
theorem kinds_all : ∀ v : Fin 256, ((whirligigref07_Kinds.f 20 (v.val : Int)).any fun t => t.1.data.toList == [] && (t.2.1 == (if (wareT (v.val : Int)).2.2.2.2 = true then (v.val : Int) else 0) && (t.2.2.1 == (wareT (v.val : Int)).1 && (t.2.2.2.1 == (wareT (v.val : Int)).2.1 && (t.2.2.2.2.1 == (wareT (v.val : Int)).2.2.1 && (t.2.2.2.2.2.1 == (wareT (v.val : Int)).2.2.2.1 && (t.2.2.2.2.2.2.1 == 0 && (t.2.2.2.2.2.2.2.1 == 0 && (t.2.2.2.2.2.2.2.2.1 == 0 && (t.2.2.2.2.2.2.2.2.2.1 == 0 && t.2.2.2.2.2.2.2.2.2.2 == (wareT (v.val : Int)).2.2.2.2)))))))))) = true := by decide +kernel
theorem kinds_is (v : Int) (h : 0 ≤ v ∧ v ≤ 255) (k : Nat) (hk : 20 ≤ k) : whirligigref07_Kinds.f k v = some ((⟨#[]⟩ : ByteArray), (if (wareT v).2.2.2.2 = true then v else 0), (wareT v).1, (wareT v).2.1, (wareT v).2.2.1, (wareT v).2.2.2.1, 0, 0, 0, 0, (wareT v).2.2.2.2) := by
  refine more (fun k => whirligigref07_Kinds.mono v k) ?_ k hk
  obtain ⟨u, rfl⟩ := byte_fin h
  have q := kinds_all u
  cases e : whirligigref07_Kinds.f 20 (u.val : Int) with
  | none => rw [e] at q; cases q
  | some t =>
    rw [e] at q
    obtain ⟨⟨⟨b⟩⟩, t1, t2, t3, t4, t5, t6, t7, t8, t9, t10⟩ := t
    simp only [Option.any_some, Bool.and_eq_true, beq_iff_eq] at q
    obtain ⟨q0, q1, q2, q3, q4, q5, q6, q7, q8, q9, q10⟩ := q
    rw [← q1, ← q2, ← q3, ← q4, ← q5, ← q10, q6, q7, q8, q9]
    have : b = [] := q0
    subst this
    rfl
theorem most_all : ∀ v : Fin 9, whirligigref07_Most.f 12 (v.val : Int) = some (shl .i64 32768 (v.val : Int)) ∧ wrap64 (Int.tdiv (shl .i64 32768 (v.val : Int)) 16384) = wrap64 (2 * 2 ^ min (v.val : Int).toNat 64) := by decide +kernel
theorem most_is (r : Int) (h : 0 ≤ r ∧ r ≤ 8) : (∀ k, 12 ≤ k → whirligigref07_Most.f k r = some (shl .i64 32768 r)) ∧ wrap64 (Int.tdiv (shl .i64 32768 r) 16384) = wrap64 (2 * 2 ^ min r.toNat 64) := by
  have q := most_all ⟨r.toNat, by omega⟩
  rw [show ((⟨r.toNat, by omega⟩ : Fin 9).val : Int) = r by show (r.toNat : Int) = r; omega] at q
  exact ⟨fun k hk => more (fun k => whirligigref07_Most.mono r k) q.1 k hk, q.2⟩
theorem signs_is (b : Int) : whirligigref07_signs.f b = some (prb b) := by
  unfold whirligigref07_signs.f prb
  by_cases h : b ≥ 32
  · rw [if_pos h, decide_eq_true h]; rfl
  · rw [if_neg h, decide_eq_false h]; rfl
theorem str_append (a b : List Int) : strOfNums (a ++ b) = strOfNums a ++ strOfNums b := by
  apply ByteArray.ext
  simp [strOfNums, ByteArray.data_append]
theorem str_size (a : List Int) : (strOfNums a).size = a.length := by
  simp [strOfNums, ByteArray.size]
/-- The title behind j signs. -/
def titleS (l : List Int) (j : Nat) : ByteArray := strOfNums ((l.take (308 + j)).drop 308)
theorem title_size (l : List Int) (j : Nat) (h : 308 + j ≤ l.length) : (titleS l j).size = j := by
  unfold titleS; rw [str_size]; simp; omega
theorem title_step (l : List Int) (j : Nat) (h : 308 + j < l.length) : titleS l j ++ strOfNums [rd l (308 + (j : Int))] = titleS l (j + 1) := by
  unfold titleS
  rw [← str_append]
  congr 1
  have e : rd l (308 + (j : Int)) = l[308 + j] := by
    unfold rd
    rw [show (308 + (j : Int)).toNat = 308 + j by omega]
    simp [List.getD_eq_getElem?_getD, h]
  rw [e, show 308 + (j + 1) = (308 + j) + 1 by omega, List.take_succ_eq_append_getElem h, List.drop_append_of_le_length (by simp; omega)]
theorem title_zero (l : List Int) : titleS l 0 = (⟨#[]⟩ : ByteArray) := by
  unfold titleS
  rw [List.drop_take]
  rfl
theorem whole_or (x y : Int) (hx : 0 ≤ x ∧ x ≤ 255) (hy : 0 ≤ y ∧ y ≤ 255) : IntKind.u16.wrap (wrap64 ((wrap64 (256 * (wrap64 x))) + (wrap64 y))) = Go.bits .or .u16 (IntKind.u16.wrap (IntKind.u16.wrap x * 256)) (IntKind.u16.wrap y) := by
  have a1 : IntKind.u16.wrap x = x := by rw [IntKind.wrap_u16]; omega
  have a2 : IntKind.u16.wrap y = y := by rw [IntKind.wrap_u16]; omega
  have a3 : IntKind.u16.wrap (x * 256) = x * 256 := by rw [IntKind.wrap_u16]; omega
  rw [wrap64_in (x := x) (by omega), wrap64_in (x := y) (by omega), wrap64_in (x := 256 * x) (by omega), wrap64_in (x := 256 * x + y) (by omega), a1, a2, a3, u16_or256 x y (by omega) (by omega) (by omega) (by omega), IntKind.wrap_u16]
  omega
theorem size_all : ∀ m : Fin 6, rd [0, 2048, 8192, 32768, 131072, 65536] (m.val : Int) = sizeT (m.val : Int) := by decide +kernel
theorem size_is (m : Int) (h : 0 ≤ m ∧ m ≤ 5) : rd [0, 2048, 8192, 32768, 131072, 65536] m = sizeT m := by
  have q := size_all ⟨m.toNat, by omega⟩
  rw [show ((⟨m.toNat, by omega⟩ : Fin 6).val : Int) = m by show (m.toNat : Int) = m; omega] at q
  exact q
/-- What the reference says behind the title. -/
theorem title_loop {l : List Int} (hb : bytes l) (hl : 336 ≤ l.length) (r m s kd mm : Int) (ram bat clk : Bool) (z1 z3 z4 : Int) (hr : 0 ≤ r ∧ r ≤ 8) (hm : 0 ≤ m ∧ m ≤ 5) :
    ∀ d j k : Nat, j + d = 16 → d + 14 ≤ k →
    whirligigref07_Parse.l0 k l r m s (308 + (j : Int)) (titleS l j) kd mm ram bat clk z1 0 z3 z4 = some (titleS l (titleTo l d j), kd, mm, ram, bat, clk, wrap64 (2 * 2 ^ min r.toNat 64), ramT ram m, s, Go.bits .or .u16 (IntKind.u16.wrap (IntKind.u16.wrap (rd l 334) * 256)) (IntKind.u16.wrap (rd l 335)), 0) := by
  obtain ⟨M1, M2⟩ := most_is r hr
  have hW := whole_or (rd l 334) (rd l 335) (rd_byte hb _) (rd_byte hb _)
  have hS := size_is m hm
  have h6 : m < (([0, 2048, 8192, 32768, 131072, 65536] : List Int).length : Int) := by show m < 6; omega
  intro d
  induction d with
  | zero =>
    intro j k hj hk
    obtain ⟨k', rfl⟩ : ∃ k', k = k' + 1 := ⟨k - 1, by omega⟩
    rw [whirligigref07_Parse.l0, if_neg (by omega), M1 k' (by omega)]
    simp only [Option.bind_some]
    cases ram with
    | true => rw [if_pos rfl, if_pos hm.1, if_pos h6, if_pos (by omega), if_pos (by omega), M2, hW, hS]; rfl
    | false => rw [if_neg (by decide), if_pos (by omega), if_pos (by omega), M2, hW]; rfl
  | succ d ih =>
    intro j k hj hk
    obtain ⟨k', rfl⟩ : ∃ k', k = k' + 1 := ⟨k - 1, by omega⟩
    rw [whirligigref07_Parse.l0, if_pos (by omega), if_pos (by omega), if_pos (by omega), signs_is]
    simp only [Option.bind_some]
    unfold titleTo
    cases hp : prb (rd l (308 + (j : Int))) with
    | true =>
      rw [if_pos rfl, if_pos rfl, if_pos (by rw [title_size l j (by omega), str_size]; simp; omega), title_step l j (by omega), wrap64_in (x := 308 + (j : Int) + 1) (by omega)]
      have q := ih (j + 1) k' (by omega) (by omega)
      rw [show (308 : Int) + ((j + 1 : Nat) : Int) = 308 + (j : Int) + 1 by omega] at q
      exact q
    | false =>
      rw [if_neg (by decide), if_neg (by decide), M1 k' (by omega)]
      simp only [Option.bind_some]
      cases ram with
      | true => rw [if_pos rfl, if_pos hm.1, if_pos h6, if_pos (by omega), if_pos (by omega), M2, hW, hS]; rfl
      | false => rw [if_neg (by decide), if_pos (by omega), if_pos (by omega), M2, hW]; rfl
theorem j0_true (k : Nat) (l : List Int) (a b : Int) (T : ByteArray) (c d : Int) (e f g : Bool) (h i j m : Int) : whirligigref07_Parse.j0 (k + 1) l a b true T c d e f g h i j m = some ((⟨#[]⟩ : ByteArray), 0, 0, false, false, false, 0, 0, 0, 0, 5) := by
  rw [whirligigref07_Parse.j0, if_pos rfl]
theorem parse_same {l : List Int} (hb : bytes l) (hL : l.length ≤ 9223372036854775807) (k : Nat) (hk : 60 ≤ k) : ∃ r, header_Parse.f l = some r ∧ whirligigref07_Parse.f k l = some r := by
  unfold header_Parse.f whirligigref07_Parse.f
  by_cases hl : (336 : Int) ≤ l.length
  case neg => rw [if_neg hl, if_pos (by omega)]; exact ⟨_, rfl, rfl⟩
  have b7 := rd_byte hb 327
  have b8 := rd_byte hb 328
  have b9 := rd_byte hb 329
  rw [if_pos hl, if_pos ⟨b7.1, b7.2, b8.1, b9.1⟩, if_neg (show ¬ (l.length : Int) < 336 by omega), if_pos (show (327 : Int) < l.length by omega), kinds_is (rd l 327) b7 k (by omega)]
  simp only [Option.bind_some]
  by_cases hok : (wareT (rd l 327)).2.2.2.2 = true
  case neg => rw [if_neg hok, if_neg hok]; exact ⟨_, rfl, rfl⟩
  rw [if_pos hok, if_pos hok, if_pos (show (328 : Int) < l.length by omega), if_pos (show (329 : Int) < l.length by omega)]
  obtain ⟨k', rfl⟩ : ∃ k', k = k' + 1 := ⟨k - 1, by omega⟩
  by_cases h8 : rd l 328 ≤ 8
  case neg => rw [if_neg (fun z => h8 z.1), if_pos (by omega), j0_true]; exact ⟨_, rfl, rfl⟩
  rw [if_neg (show ¬ rd l 328 > 8 by omega)]
  by_cases h5 : rd l 329 ≤ 5
  case neg => rw [if_neg (fun z => h5 z.2.1), if_pos (by omega), j0_true]; exact ⟨_, rfl, rfl⟩
  rw [if_neg (show ¬ rd l 329 > 5 by omega), (most_is (rd l 328) ⟨b8.1, h8⟩).1 (k' + 1) (by omega)]
  simp only [Option.bind_some]
  by_cases hm : (l.length : Int) ≤ shl .i64 32768 (rd l 328)
  case neg => rw [if_neg (fun z => hm z.2.2), decide_eq_true (by omega), j0_true]; exact ⟨_, rfl, rfl⟩
  rw [if_pos ⟨h8, h5, hm⟩, decide_eq_false (by omega), whirligigref07_Parse.j0, if_neg (show ¬ (false = true) by decide)]
  have hsum : whirligigref07_Sum.f k' l = some (sumTo l 25, 0) := by
    unfold whirligigref07_Sum.f
    rw [if_neg (by omega)]
    exact sum_step hb (by omega) 25 0 k' rfl (by omega)
  rw [hsum]
  simp only [Option.bind_some]
  rw [if_pos (show (333 : Int) < l.length by omega)]
  by_cases hs : rd l 333 = sumTo l 25
  case neg => rw [if_neg hs, if_neg (fun z => hs z.symm)]; exact ⟨_, rfl, rfl⟩
  rw [if_pos hs, if_pos hs.symm]
  have q := title_loop hb (by omega) (rd l 328) (rd l 329) (sumTo l 25) (rd l 327) (wareT (rd l 327)).1 (wareT (rd l 327)).2.1 (wareT (rd l 327)).2.2.1 (wareT (rd l 327)).2.2.2.1 0 0 0 ⟨b8.1, h8⟩ ⟨b9.1, h5⟩ 16 0 k' rfl (by omega)
  rw [title_zero] at q
  refine ⟨_, rfl, ?_⟩
  rw [hs, if_pos hok]
  exact q
theorem HeaderParses (l : List Int) (hL : l.length ≤ 9223372036854775807) (hx : ∀ x ∈ l, 0 ≤ x ∧ x ≤ 255) : ∃ k, whirligiglaw07_HeaderParses.f k l = some true := by
  obtain ⟨r, h1, h2⟩ := parse_same hx hL 60 (by omega)
  refine ⟨60, ?_⟩
  unfold whirligiglaw07_HeaderParses.f
  rw [shown_all _ (by omega), h1, h2]
  simp
end Go.Proofs.Ytmlpijlnchnabaa.Pure
