/- The statement CartPlays: for every input the law returns true and each argument reads as before. (Packed by pack.py out of this session's texts.) -/
import Derived.Handy
import Derived.Test.YtmjjojbedllmgaaRows
import Derived.Test.YtmjjojbedllmgaaQCartPlays0
import Derived.Test.YtmjjojbedllmgaaQCartPlays6
import Derived.Test.YtmjjojbedllmgaaQCartPlays10
import Derived.Test.YtmjjojbedllmgaaQCartPlays11
import Derived.Test.YtmjjojbedllmgaaQCartPlays12
set_option linter.unusedVariables false
set_option linter.unusedSimpArgs false
set_option maxRecDepth 100000
set_option maxHeartbeats 20000000
open Go.RowKit Go.Proofs.YtmjjojbedllmgaaW.PrintWords Go.Proofs.YtmjjojbedllmgaaW.PrintLast Go.Proofs.YtmjjojbedllmgaaW.PrintMore Go.Proofs.Ytmjjojbedllmgaa.G
namespace Go.Proofs.Ytmjjojbedllmgaa.Hand
def titleOk (s : ByteArray) : Bool := (List.range s.size).all fun i => prb (bt s (i : Int))
theorem first_no (p : Nat → Bool) : ∀ n, (∃ i, i < n ∧ p i = false) → ∃ j, j < n ∧ (∀ i, i < j → p i = true) ∧ p j = false
 | 0, h => by obtain ⟨i, hi, _⟩ := h; omega
 | n + 1, h => by
  by_cases q : ∃ i, i < n ∧ p i = false
  ·obtain ⟨j, hj, h1, h2⟩ := first_no p n q
   exact ⟨j, by omega, h1, h2⟩
  ·obtain ⟨i, hi, hp⟩ := h
   have hin : i = n := by
    rcases Nat.lt_or_ge i n with z | z
    ·exact absurd ⟨i, z, hp⟩ q
    ·omega
   subst hin
   refine ⟨i, by omega, fun k hk => ?_, hp⟩
   cases e : p k with
   | true => rfl
   | false => exact absurd ⟨k, hk, e⟩ q
theorem titleOk_iff (s : ByteArray) : titleOk s = true ↔ ∀ i : Nat, i < s.size → prb (bt s (i : Int)) = true := by
 unfold titleOk
 rw [List.all_eq_true]
 constructor
 ·intro h i hi; exact h i (List.mem_range.mpr hi)
 ·intro h i hi; exact h i (List.mem_range.mp hi)
def makeL (s : ByteArray) (kd rom ram : Int) (l : List Int) : List Int := (splice (((((splice (splice (List.replicate (336 + l.length) 0) 256 (bytesOf ⟨#[0, 195, 80, 1]⟩)) 308 (bytesOf s)).set 327 kd).set 328 rom).set 329 ram).set 333 (sumTo (((((splice (splice (List.replicate (336 + l.length) 0) 256 (bytesOf ⟨#[0, 195, 80, 1]⟩)) 308 (bytesOf s)).set 327 kd).set 328 rom).set 329 ram).take 336) 25)) 336 l)
def cu.f (s : ByteArray) (kd rom ram : Int) (l : List Int) : Option (List Int × Int) :=
 if (s.size : Int) ≤ 16 then
  if titleOk s = true then
   if 0 ≤ kd ∧ kd ≤ 255 ∧ 0 ≤ rom then
    if (am kd).2.2.2.2 = true then
     if rom ≤ 8 ∧ ram ≤ 5 ∧ (l.length : Int) ≤ wrap64 (shl .i64 32768 rom - 336) then
      (bw.f (337 + l.length) (makeL s kd rom ram l)).bind fun wv => some (((makeL s kd rom ram l).set 334 (wv / 256 % 256)).set 335 (wv % 256), 0)
     else some ([], 5)
    else some ([], 4)
   else none
  else some ([], 1)
 else some ([], 1)
theorem of_refused {f : FuncId} {args : Array Value} {w : World} {n : Int} (h : Calls Try.prog f args w fun e' w' => e' = .returned (.tuple #[.slice none 0 0, .int .i64 n]) ∧ Below w.heap.size w w') :
  Calls Try.prog f args w fun e w' => ∃ v0_ : Value, e = .returned (.tuple #[v0_, .int .i64 n]) ∧ Kd.R (Kd.int .u8) 5 w' w.heap.size (fun _ => True) v0_ [] ∧ Below w.heap.size w w' :=
 h.mono fun _ _ ⟨e, b⟩ => ⟨_, e, Kd.R_nil _ _ _ _ _, b⟩
theorem cu.calls (a0 : ByteArray) (a1 a2 a3 : Int) (A4 : Option Addr) (c4 : Nat) (l4 : List Int) (r1 : List Int) (r2 : Int) (w : World) (hr4 : Kd.C (Kd.int .u8) w A4 l4.length l4) (hc4 : l4.length ≤ c4) (h : cu.f a0 a1 a2 a3 l4 = some (r1, r2)) :
  Calls Try.prog 52 #[.string a0, .int .u8 a1, .int .u8 a2, .int .u8 a3, .slice A4 l4.length c4] w fun e w' => ∃ v0_ : Value, e = .returned (.tuple #[v0_, .int .i64 r2]) ∧ Kd.R (Kd.int .u8) 5 w' w.heap.size (fun _ => True) v0_ r1 ∧ Below w.heap.size w w' := by
 unfold cu.f at h
 by_cases hs : (a0.size : Int) ≤ 16
 case neg =>
  rw [if_neg hs] at h
  cases h
  exact of_refused (hmake_long a0 a1 a2 a3 A4 c4 l4 w hr4 hc4 hs)
 rw [if_pos hs] at h
 by_cases ht : titleOk a0 = true
 case neg =>
  rw [if_neg ht] at h
  cases h
  have hex : ∃ i, i < a0.size ∧ (fun i : Nat => prb (bt a0 (i : Int))) i = false := by
   refine Classical.byContradiction fun q => ht ((titleOk_iff a0).mpr fun i hi => ?_)
   cases e : prb (bt a0 (i : Int)) with
   | true => rfl
   | false => exact absurd ⟨i, hi, e⟩ q
  obtain ⟨j, hj, h1, h2⟩ := first_no _ _ hex
  exact of_refused (hmake_sign a0 a1 a2 a3 A4 c4 l4 w hr4 hc4 hs j (by omega) h1 h2)
 rw [if_pos ht] at h
 have hpr := (titleOk_iff a0).mp ht
 by_cases hk : 0 ≤ a1 ∧ a1 ≤ 255 ∧ 0 ≤ a2
 case neg => rw [if_neg hk] at h; cases h
 rw [if_pos hk] at h
 obtain ⟨k1, k2, k3⟩ := hk
 by_cases hok : (am a1).2.2.2.2 = true
 case neg =>
  rw [if_neg hok] at h
  cases h
  exact of_refused (hmake_kind a0 a1 a2 a3 A4 c4 l4 w hr4 hc4 hs hpr ⟨k1, k2⟩ (Bool.eq_false_iff.mpr hok))
 rw [if_pos hok] at h
 by_cases h8 : a2 ≤ 8
 case neg =>
  rw [if_neg (fun z => h8 z.1)] at h
  cases h
  exact of_refused (hmake_size_a a0 a1 a2 a3 A4 c4 l4 w hr4 hc4 hs hpr ⟨k1, k2⟩ hok (decide_eq_false h8))
 by_cases h5 : a3 ≤ 5
 case neg =>
  rw [if_neg (fun z => h5 z.2.1)] at h
  cases h
  exact of_refused (hmake_size_b a0 a1 a2 a3 A4 c4 l4 w hr4 hc4 hs hpr ⟨k1, k2⟩ hok (decide_eq_true h8) (decide_eq_false h5))
 by_cases hm : (l4.length : Int) ≤ wrap64 (shl .i64 32768 a2 - 336)
 case neg =>
  rw [if_neg (fun z => hm z.2.2)] at h
  cases h
  exact of_refused (hmake_size_c a0 a1 a2 a3 A4 c4 l4 w hr4 hc4 hs hpr ⟨k1, k2⟩ hok k3 (decide_eq_true h8) (decide_eq_true h5) (decide_eq_false hm))
 rw [if_pos ⟨h8, h5, hm⟩] at h
 obtain ⟨wv, hW, h⟩ := Option.bind_eq_some_iff.mp h
 cases h
 exact hmake_ok a0 a1 a2 a3 A4 c4 l4 w hr4 hc4 hs hpr ⟨k1, k2⟩ hok k3 (decide_eq_true h8) (decide_eq_true h5) (decide_eq_true hm) _ wv hW
end Go.Proofs.Ytmjjojbedllmgaa.Hand
section
namespace Go.Proofs.Ytmjjojbedllmgaa.G
open Go.Proofs.Ytmjjojbedllmgaa.Hand
def bz.f (a0 : Int) (a1 : Int) : Option (List Int) := (cu.f (⟨#[83, 72, 79, 87, 78]⟩ : ByteArray) a0 0 a1 (([1, 2, 3] : List Int))).bind fun bt124 => (some bt124.1)
theorem bz.calls (a0 : Int) (a1 : Int) (r : List Int) (w : World) (h : bz.f a0 a1 = some r) :
  Calls Try.prog 27 #[.int .u8 a0, .int .u8 a1] w fun e w' => ∃ v0_ : Value, e = .returned (v0_) ∧ Kd.R (Kd.int .u8) 5 w' w.heap.size (fun _ => True) v0_ r ∧ Below w.heap.size w w' := by
 have HB := ab.mk (Below.refl w.heap.size w)
 have H : ((cu.f (⟨#[83, 72, 79, 87, 78]⟩ : ByteArray) a0 0 a1 (([1, 2, 3] : List Int))).bind fun bt124 => (some bt124.1)) = some r := h
 clear h
 obtain ⟨y121, hy121⟩ : ∃ y_ : List Int, y_ = (([1, 2, 3] : List Int)) := ⟨_, rfl⟩
 replace H : ((cu.f (⟨#[83, 72, 79, 87, 78]⟩ : ByteArray) a0 0 a1 y121).bind fun bt124 => (some bt124.1)) = some r := by first | (rw [hy121]; with_reducible exact H) | (have H2_ := (Option.bind_some _ _).symm.trans H; rw [hy121]; with_reducible exact H2_) | (have H2_ := (Option.bind_some _ _).symm.trans H; with_reducible exact H2_) | with_reducible exact H | (rw [hy121]; exact H) | exact H
 have Ny121 := ab.mk hy121
 clear hy121
 replace H := Option.bind_eq_some_iff.mp H
 obtain ⟨⟨t124, t125⟩, A30, H⟩ := H
 replace H : (some t124) = some r := H
 have A3 := ab.mk A30
 clear A30
 obtain rfl := Option.some.inj H
 go_enter Try.func27, Try.ntmps27
 go_wp2_with (first | ((with_reducible refine ar (N := 10) rfl ?_); refine Kd.R_lit (Kd.int .u8) _ 5 ?hg (N := 10) ?hd (xs := ([1, 2, 3] : List Int)) (inner := [.int .u8 1, .int .u8 2, .int .u8 3]) (ok := fun _ => True) (okp := fun _ => True) ?hr ?hp (fun _ hk => hk) trivial (Below.refl _ _) (Nat.le_refl _) (by simp) ?_; (case hd => rfl); (case hg => rfl); (case hr => first | (go_simp; done) | (go_simp; rfl)); (case hp => exact (Reps.one (show Kd.M (Kd.int .u8) _ _ _ 1 [.int .u8 1] from rfl) (Reps.one (show Kd.M (Kd.int .u8) _ _ _ 2 [.int .u8 2] from rfl) (Reps.one (show Kd.M (Kd.int .u8) _ _ _ 3 [.int .u8 3] from rfl) (Reps.none _ _))))); intro v122 w4 ho5 hb hg_ hnew_; clear hg_ hnew_; (first | rw [← Ny121.out] at ho5 | (simp only [Int.reduceToNat] at ho5; rw [← Ny121.out] at ho5)); have n0_ := ab.mk (Kd.R_lower ho5 (aw (by repeat (first | (with_reducible first | exact HB.out | apply ac | apply ai | apply aj) | exact HB.out)))); have n1_ := ab.mk (ak (by repeat (first | (with_reducible first | exact HB.out | apply ac | apply ai | apply aj) | exact HB.out)) hb); clear HB; have HO123 := n0_; have HB := n1_; clear n0_ n1_; clear hb ho5; obtain ⟨Ao6, co6, eo6⟩ := Kd.R_slice HO123.out; subst eo6) | ((with_reducible refine cn (f := 52) rfl ?_); refine goesL_ (some 11) rfl rfl Try.func52 (by kernel_rfl) rfl #[.string (⟨#[83, 72, 79, 87, 78]⟩ : ByteArray), .int .u8 a0, .int .u8 0, .int .u8 a1, .slice Ao6 y121.length co6] rfl (by (try simp only [List.map_toArray, List.map_cons, List.map_nil]); first | done | rfl | (simp only [List.length_drop, List.length_take]; rfl)) ?_; (with_reducible refine (cu.calls (⟨#[83, 72, 79, 87, 78]⟩ : ByteArray) a0 0 a1 _ _ y121 t124 t125 _ ?side1 ?side2 A3.out).mono ?_); (case side1 => repeat (first | exact (Kd.R_reads' HO123.out).2.2 | (with_reducible refine Kd.C_alloc ?_ _) | (with_reducible refine Kd.C_drewN ?_ _) | (with_reducible refine Kd.C_drew ?_))); (case side2 => exact (Kd.R_reads' HO123.out).2.1); rintro e w7 ⟨v126, rfl, ho0, hb⟩; refine ⟨_, rfl, ?_⟩; have n0_ := ab.mk (Kd.R_elder' (by (with_reducible repeat (first | apply Kd.R_alloc | apply Kd.R_drewN | apply Kd.R_drew)); exact HO123.out) (Kd.R_base ho0) hb); have n1_ := ab.mk (Kd.R_lower (Kd.R_new' ho0 (Kd.R_lt (by (with_reducible repeat (first | apply Kd.R_alloc | apply Kd.R_drewN | apply Kd.R_drew)); exact HO123.out))) (aw (by repeat (first | (with_reducible first | exact HB.out | apply ac | apply ai | apply aj) | exact HB.out)))); have n2_ := ab.mk (ak (by repeat (first | (with_reducible first | exact HB.out | apply ac | apply ai | apply aj) | exact HB.out)) hb); clear HO123; clear HB; have HO123 := n0_; have HO127 := n1_; have HB := n2_; clear n0_ n1_ n2_; (try clear hb); (try clear hb2); (try clear hk); (try clear hi); (try clear ho0)))
 go_ret
 exact ⟨_, by first | rfl | (simp [aE, aG] <;> rfl) | (simp [*, aE, aG] <;> rfl), by (with_reducible repeat (first | apply Kd.R_alloc | apply Kd.R_drewN | apply Kd.R_drew)); exact Kd.R_mono HO127.out (fun _ hk => trivial), by repeat (first | (with_reducible first | exact HB.out | apply ac | apply ai | apply aj) | exact HB.out)⟩
end Go.Proofs.Ytmjjojbedllmgaa.G
end
namespace Go.Proofs.Ytmjjojbedllmgaa.Hand
def madeL (k : Int) : List Int := (bz.f k 2).getD []
theorem made_is2 : bz.f 2 2 = some (madeL 2) ∧ headE (madeL 2) = 0 ∧ ((madeL 2).all fun x => decide (0 ≤ x) && decide (x ≤ 255)) = true := by decide +kernel
theorem made_is16 : bz.f 16 2 = some (madeL 16) ∧ headE (madeL 16) = 0 ∧ ((madeL 16).all fun x => decide (0 ≤ x) && decide (x ≤ 255)) = true := by decide +kernel
theorem bytes_all {l : List Int} (h : (l.all fun x => decide (0 ≤ x) && decide (x ≤ 255)) = true) : Bytes l := by
 intro x hx
 have q := List.all_eq_true.mp h x hx
 simpa using q
def sc0 : Ct := (newC (madeL 2))
def sc1 : Ct := (sc0.write 40960 5)
def sc2 : Ct := (sc1.write 0 10)
def sc3 : Ct := (sc2.write 40960 5)
def sd0 : Ct := (newC (madeL 16))
def sd1 : Ct := (sd0.write 0 10)
def sd2 : Ct := (sd1.write 16384 8)
def sd3 : Ct := sd2.tick
def sd4 : Ct := (sd3.write 24576 0)
def sd5 : Ct := (sd4.write 24576 1)
theorem sc0_ok : sc0.Ok := newC_ok (bytes_all made_is2.2.2) made_is2.2.1
theorem sc1_ok : sc1.Ok := sc0_ok.write _ _ (by decide)
theorem sc2_ok : sc2.Ok := sc1_ok.write _ _ (by decide)
theorem sc3_ok : sc3.Ok := sc2_ok.write _ _ (by decide)
theorem sd0_ok : sd0.Ok := newC_ok (bytes_all made_is16.2.2) made_is16.2.1
theorem sd1_ok : sd1.Ok := sd0_ok.write _ _ (by decide)
theorem sd2_ok : sd2.Ok := sd1_ok.write _ _ (by decide)
theorem sd3_ok : sd3.Ok := sd2_ok.tick
theorem sd4_ok : sd4.Ok := sd3_ok.write _ _ (by decide)
theorem sd5_ok : sd5.Ok := sd4_ok.write _ _ (by decide)
theorem sc_reads : sc1.read 40960 = 255 ∧ sc3.read 40960 = 5 ∧ sc3.read 336 = 1 := by decide +kernel
theorem sd_reads : sd3.read 40960 = 0 ∧ sd5.read 40960 = 1 := by decide +kernel
theorem shown_at (w : World) : Calls Try.prog 9 #[] w fun e w' => e = .returned (.bool true) ∧ Below w.heap.size w w' := by
 go_enter Try.func9, Try.ntmps9
 go_wp2_with fail
 refine (bz.calls 2 2 (madeL 2) _ made_is2.1).mono ?_
 rintro e' w1 ⟨v0, rfl, hR, hb⟩
 obtain ⟨A, c, rfl⟩ := Kd.R_slice hR
 obtain ⟨-, hc, hC⟩ := Kd.R_reads' hR
 have HB := ab.mk hb
 have HN := ab.mk (new_at A c (madeL 2) w1 hC hc (bytes_all made_is2.2.2) made_is2.2.1)
 clear hb hR hC hc
 go_wp2_with fail
 refine HN.out.mono ?_
 rintro e' w2 ⟨a, rfl, hCa, ha1, ha2, ha3, hb⟩
 have CA := ab.mk (show ax w2 a sc0 from hCa)
 have HA := ab.mk (show w.heap.size ≤ a.b ∧ w.heap.size ≤ a.gr from ⟨Nat.le_trans HB.out.size ha1, Nat.le_trans HB.out.size ha3⟩)
 have HB2 := ab.mk (ak HB.out hb)
 clear hCa ha1 ha2 ha3 hb HB HN
 go_wp2_with fail
 refine (bz.calls 16 2 (madeL 16) _ made_is16.1).mono ?_
 rintro e' w3 ⟨v0, rfl, hR, hb⟩
 obtain ⟨A, c, rfl⟩ := Kd.R_slice hR
 obtain ⟨-, hc, hC⟩ := Kd.R_reads' hR
 have CA2 := ab.mk (CA.out.below hb)
 have HB := ab.mk (ak HB2.out hb)
 have HN := ab.mk (new_at _ c (madeL 16) w3 hC hc (bytes_all made_is16.2.2) made_is16.2.1)
 clear CA HB2 hb hR hC hc
 go_wp2_with fail
 refine HN.out.mono ?_
 rintro e' w4 ⟨d, rfl, hCd, hd1, hd2, hd3, hb⟩
 have CD := ab.mk (show ax w4 d sd0 from hCd)
 have HD := ab.mk (show w.heap.size ≤ d.b ∧ w.heap.size ≤ d.gr from ⟨Nat.le_trans HB.out.size hd1, Nat.le_trans HB.out.size hd3⟩)
 have HAD := ab.mk (show (a.b < w3.heap.size ∧ a.gi < w3.heap.size ∧ a.gr < w3.heap.size) ∧ w3.heap.size ≤ d.b ∧ w3.heap.size ≤ d.gi ∧ w3.heap.size ≤ d.gr from ⟨⟨CA2.out.ltb, CA2.out.lti, CA2.out.ltr⟩, hd1, hd2, hd3⟩)
 have CA := ab.mk (CA2.out.below hb)
 have HB2 := ab.mk (ak HB.out hb)
 clear hCd hd1 hd2 hd3 hb HB HN CA2
 go_wp2_with fail
 refine (write_at CA.out sc0_ok 40960 5 (by decide)).mono ?_
 rintro e' w5 ⟨rfl, hC, hu⟩
 have X := ab.mk (show ax w5 a sc1 from hC)
 have Y := ab.mk (CD.out.other hu _ HAD.out.1.1 HAD.out.1.2.2 HAD.out.2.1 HAD.out.2.2.1 HAD.out.2.2.2)
 have HB := ab.mk (cx HB2.out (Nat.le_refl _) hu HA.out.1 HA.out.2)
 clear hC hu HB2 CA CD
 have CA := X
 have CD := Y
 clear X Y
 go_wp2_with fail
 refine (read_at CA.out sc1_ok 40960 (by decide)).mono ?_
 rintro e' w6 ⟨rfl, hb⟩
 rw [sc_reads.1]
 have X := ab.mk (CA.out.below hb)
 have Y := ab.mk (CD.out.below hb)
 have HB2 := ab.mk (ak HB.out hb)
 clear hb HB CA CD
 have CA := X
 have CD := Y
 clear X Y
 go_wp2_with fail
 refine (write_at CA.out sc1_ok 0 10 (by decide)).mono ?_
 rintro e' w7 ⟨rfl, hC, hu⟩
 have X := ab.mk (show ax w7 a sc2 from hC)
 have Y := ab.mk (CD.out.other hu _ HAD.out.1.1 HAD.out.1.2.2 HAD.out.2.1 HAD.out.2.2.1 HAD.out.2.2.2)
 have HB := ab.mk (cx HB2.out (Nat.le_refl _) hu HA.out.1 HA.out.2)
 clear hC hu HB2 CA CD
 have CA := X
 have CD := Y
 clear X Y
 go_wp2_with fail
 refine (write_at CA.out sc2_ok 40960 5 (by decide)).mono ?_
 rintro e' w8 ⟨rfl, hC, hu⟩
 have X := ab.mk (show ax w8 a sc3 from hC)
 have Y := ab.mk (CD.out.other hu _ HAD.out.1.1 HAD.out.1.2.2 HAD.out.2.1 HAD.out.2.2.1 HAD.out.2.2.2)
 have HB2 := ab.mk (cx HB.out (Nat.le_refl _) hu HA.out.1 HA.out.2)
 clear hC hu HB CA CD
 have CA := X
 have CD := Y
 clear X Y
 go_wp2_with fail
 refine (write_at CD.out sd0_ok 0 10 (by decide)).mono ?_
 rintro e' w9 ⟨rfl, hC, hu⟩
 have X := ab.mk (show ax w9 d sd1 from hC)
 have Y := ab.mk (CA.out.first hu _ HAD.out.1.1 HAD.out.1.2.1 HAD.out.1.2.2 HAD.out.2.1 HAD.out.2.2.2)
 have HB := ab.mk (cx HB2.out (Nat.le_refl _) hu HD.out.1 HD.out.2)
 clear hC hu HB2 CA CD
 have CD := X
 have CA := Y
 clear X Y
 go_wp2_with fail
 refine (write_at CD.out sd1_ok 16384 8 (by decide)).mono ?_
 rintro e' w10 ⟨rfl, hC, hu⟩
 have X := ab.mk (show ax w10 d sd2 from hC)
 have Y := ab.mk (CA.out.first hu _ HAD.out.1.1 HAD.out.1.2.1 HAD.out.1.2.2 HAD.out.2.1 HAD.out.2.2.2)
 have HB2 := ab.mk (cx HB.out (Nat.le_refl _) hu HD.out.1 HD.out.2)
 clear hC hu HB CA CD
 have CD := X
 have CA := Y
 clear X Y
 go_wp2_with fail
 refine (tick_all CD.out).mono ?_
 rintro e' w11 ⟨rfl, hC, hu⟩
 have X := ab.mk (show ax w11 d sd3 from hC)
 have Y := ab.mk (CA.out.first hu _ HAD.out.1.1 HAD.out.1.2.1 HAD.out.1.2.2 HAD.out.2.1 HAD.out.2.2.2)
 have HB := ab.mk (cx HB2.out (Nat.le_refl _) hu HD.out.1 HD.out.2)
 clear hC hu HB2 CA CD
 have CD := X
 have CA := Y
 clear X Y
 go_wp2_with fail
 refine (read_at CD.out sd3_ok 40960 (by decide)).mono ?_
 rintro e' w12 ⟨rfl, hb⟩
 rw [sd_reads.1]
 have X := ab.mk (CA.out.below hb)
 have Y := ab.mk (CD.out.below hb)
 have HB2 := ab.mk (ak HB.out hb)
 clear hb HB CA CD
 have CA := X
 have CD := Y
 clear X Y
 go_wp2_with fail
 refine (write_at CD.out sd3_ok 24576 0 (by decide)).mono ?_
 rintro e' w13 ⟨rfl, hC, hu⟩
 have X := ab.mk (show ax w13 d sd4 from hC)
 have Y := ab.mk (CA.out.first hu _ HAD.out.1.1 HAD.out.1.2.1 HAD.out.1.2.2 HAD.out.2.1 HAD.out.2.2.2)
 have HB := ab.mk (cx HB2.out (Nat.le_refl _) hu HD.out.1 HD.out.2)
 clear hC hu HB2 CA CD
 have CD := X
 have CA := Y
 clear X Y
 go_wp2_with fail
 refine (write_at CD.out sd4_ok 24576 1 (by decide)).mono ?_
 rintro e' w14 ⟨rfl, hC, hu⟩
 have X := ab.mk (show ax w14 d sd5 from hC)
 have Y := ab.mk (CA.out.first hu _ HAD.out.1.1 HAD.out.1.2.1 HAD.out.1.2.2 HAD.out.2.1 HAD.out.2.2.2)
 have HB2 := ab.mk (cx HB.out (Nat.le_refl _) hu HD.out.1 HD.out.2)
 clear hC hu HB CA CD
 have CD := X
 have CA := Y
 clear X Y
 go_wp2_with fail
 refine (read_at CA.out sc3_ok 40960 (by decide)).mono ?_
 rintro e' w15 ⟨rfl, hb⟩
 rw [sc_reads.2.1]
 have X := ab.mk (CA.out.below hb)
 have Y := ab.mk (CD.out.below hb)
 have HB := ab.mk (ak HB2.out hb)
 clear hb HB2 CA CD
 have CA := X
 have CD := Y
 clear X Y
 go_wp2_with fail
 refine (read_at CA.out sc3_ok 336 (by decide)).mono ?_
 rintro e' w16 ⟨rfl, hb⟩
 rw [sc_reads.2.2]
 have X := ab.mk (CA.out.below hb)
 have Y := ab.mk (CD.out.below hb)
 have HB2 := ab.mk (ak HB.out hb)
 clear hb HB CA CD
 have CA := X
 have CD := Y
 clear X Y
 go_wp2_with fail
 refine (read_at CD.out sd5_ok 40960 (by decide)).mono ?_
 rintro e' w17 ⟨rfl, hb⟩
 rw [sd_reads.2]
 have X := ab.mk (CA.out.below hb)
 have Y := ab.mk (CD.out.below hb)
 have HB := ab.mk (ak HB2.out hb)
 clear hb HB2 CA CD
 have CA := X
 have CD := Y
 clear X Y
 go_wp2_with fail
 go_returns
 exact ⟨rfl, HB.out⟩
end Go.Proofs.Ytmjjojbedllmgaa.Hand
section
namespace Go.Proofs.Ytmjjojbedllmgaa.Pure
open Go.Proofs.Ytmjjojbedllmgaa.Hand
theorem held_out {w : World} {B : Nat} {A : Option Addr} {c : Nat} {l : List Int} (h : Held w B A c l) (b : Nat) (hb : b < B) (h0 : 0 < l.length) : b ∉ ownA A := by
 obtain ⟨h1, h2, ⟨rfl, rfl⟩ | ⟨g, rfl, h3, _⟩⟩ := h
 ·simp [ownA]
 ·simp only [ownA, List.mem_singleton]
  omega
end Go.Proofs.Ytmjjojbedllmgaa.Pure
end
section
namespace Go.Proofs.Ytmjjojbedllmgaa.Hand
open Go.Proofs.Ytmjjojbedllmgaa.Pure
def ZAt (w : World) (g : Nat) : Prop := w.heap[g]? = some (.cells #[.bool false, .string ⟨#[]⟩, .int .u8 0, .int .i64 0, .bool false, .bool false, .bool false, .int .i64 0, .int .i64 0, .int .u8 0, .int .u16 0, .slice none 0 0, .slice none 0 0, .int .i64 0, .bool false, .int .u8 0, .int .u8 0, .int .u8 0, .bool false, .int .u8 0, .int .u8 0, .int .u8 0, .int .u16 0, .bool false, .bool false, .int .u8 0, .int .u8 0, .int .u8 0, .int .u16 0, .bool false, .bool false, .int .u8 0] 36 (0, 0))
theorem ZAt.below {w w' : World} {g : Nat} (h : ZAt w g) (hb : Below w.heap.size w w') : ZAt w' g := af h hb
theorem ZAt.range {w : World} {g : Nat} (h : ZAt w g) : w.rangeAt g 0 [.bool false, .string ⟨#[]⟩, .int .u8 0, .int .i64 0, .bool false, .bool false, .bool false, .int .i64 0, .int .i64 0, .int .u8 0, .int .u16 0, .slice none 0 0, .slice none 0 0, .int .i64 0, .bool false, .int .u8 0, .int .u8 0, .int .u8 0, .bool false, .int .u8 0, .int .u8 0, .int .u8 0, .int .u16 0, .bool false, .bool false, .int .u8 0, .int .u8 0, .int .u8 0, .int .u16 0, .bool false, .bool false, .int .u8 0] := blk_range h
theorem ZAt.fill {w : World} {g : Nat} (h : ZAt w g) : ZAt (w.setCells g 0 [.bool false, .string ⟨#[]⟩, .int .u8 0, .int .i64 0, .bool false, .bool false, .bool false, .int .i64 0, .int .i64 0, .int .u8 0, .int .u16 0, .slice none 0 0, .slice none 0 0, .int .i64 0, .bool false, .int .u8 0, .int .u8 0, .int .u8 0, .bool false, .int .u8 0, .int .u8 0, .int .u8 0, .int .u16 0, .bool false, .bool false, .int .u8 0, .int .u8 0, .int .u8 0, .int .u16 0, .bool false, .bool false, .int .u8 0]) g := blk_setAll h [.bool false, .string ⟨#[]⟩, .int .u8 0, .int .i64 0, .bool false, .bool false, .bool false, .int .i64 0, .int .i64 0, .int .u8 0, .int .u16 0, .slice none 0 0, .slice none 0 0, .int .i64 0, .bool false, .int .u8 0, .int .u8 0, .int .u8 0, .bool false, .int .u8 0, .int .u8 0, .int .u8 0, .int .u16 0, .bool false, .bool false, .int .u8 0, .int .u8 0, .int .u8 0, .int .u16 0, .bool false, .bool false, .int .u8 0] rfl
theorem ZAt.there {w : World} {g : Nat} (h : ZAt w g) : w.there g 0 32 := blk_there h 0 32 (by simp)
theorem load_nilB (v : Value) (w : World) : Calls Try.prog 24 #[.pointer none, v] w fun e w' => e = .returned (.int .i64 7) ∧ Below w.heap.size w w' := (load_nil v w).mono fun e w' ⟨h1, h2⟩ => ⟨h1, by rw [h2]; exact Below.refl _ _⟩
theorem Held.offTop {w : World} {B : Nat} {A : Option Addr} {c : Nat} {l : List Int} (h : Held w B A c l) : Off A w.heap.size := by
 rintro g rfl
 rcases h.2.2 with ⟨q, _⟩ | ⟨g', q, hg, hh⟩
 ·cases q
 ·cases q
  have := hh.lt
  omega
def plays13.T : Bool × List (List Nat × List Nat) := (true, [([], []), ([], []), ([1], [1]), ([0, 2], [0, 2]), ([], []), ([], []), ([5], [5]), ([4, 6, 3], [4, 6]), ([3, 7], [3, 7])])
def plays13.B : List Nat := [0, 0, 2, 7, 0, 0, 32, 127, 255]
theorem plays13.tab : rtab .any (opsOf Try.f5 13) = plays13.T := by kernel_rfl
theorem plays13.bits : waitsOk plays13.T.2 plays13.B = true := by kernel_rfl
def plays23.T : Bool × List (List Nat × List Nat) := (true, [([], []), ([0], [0]), ([], []), ([2], [2]), ([3], [3]), ([1, 4], [1, 4])])
def plays23.B : List Nat := [0, 1, 0, 4, 12, 31]
theorem plays23.tab : rtab .any (opsOf Try.f5 23) = plays23.T := by kernel_rfl
theorem plays23.bits : waitsOk plays23.T.2 plays23.B = true := by kernel_rfl
theorem plays_ok (A0 : Option Addr) (c0 : Nat) (l0 : List Int) (A1 : Option Addr) (c1 : Nat) (l1 : List Act1) (w : World) (hr0 : Kd.C (Kd.int .u8) w A0 l0.length l0) (hc0 : l0.length ≤ c0) (hb0 : Bytes l0) (hr1 : ActsAt w A1 l1) (hc1 : l1.length ≤ c1) (he : headE l0 = 0) :
  Calls Try.prog 5 #[.slice A0 l0.length c0, .slice A1 l1.length c1] w fun e w' => e = .returned (.bool true) ∧ Below w.heap.size w w' := by
 have HR0 := ab.mk hr0
 have HC0 := ab.mk hc0
 have HBY := ab.mk hb0
 have HR1 := ab.mk hr1
 have HC1 := ab.mk hc1
 have HE := ab.mk he
 clear hr0 hc0 hb0 hr1 hc1 he
 go_enter Try.func5, Try.ntmps5
 go_wp2_with fail
 refine (shown_at _).mono ?_
 rintro e' w1 ⟨rfl, hb⟩
 have HB := ab.mk hb
 clear hb
 go_wp2_with fail
 refine (new_at A0 c0 l0 w1 (Kd.C_below HR0.out HB.out) HC0.out HBY.out HE.out).mono ?_
 rintro e' w2 ⟨a, rfl, hCa, ha1, ha2, ha3, hb⟩
 have CA := ab.mk hCa
 have HB2 := ab.mk (ak HB.out hb)
 have HA1 := ab.mk (Nat.le_trans HB.out.size ha1)
 have HA3 := ab.mk (Nat.le_trans HB.out.size ha3)
 clear hCa ha1 ha2 ha3 hb HB
 go_wp2_with fail
 refine (rnew_at A0 c0 l0 w2 (Kd.C_below HR0.out HB2.out) HC0.out HBY.out HE.out).mono ?_
 rintro e' w3 ⟨A2, c2, rfl, hRa, hb⟩
 have K := ab.mk (show Where w a w2.heap.size w3.heap.size A0 c0 l0 from ⟨CA.out.ltb, CA.out.lti, CA.out.ltr, hb.size, HA1.out, HA3.out, HR0.out, HC0.out⟩)
 have hz := ac (Below.refl w3.heap.size w3) (.cells #[.bool false, .string ⟨#[]⟩, .int .u8 0, .int .i64 0, .bool false, .bool false, .bool false, .int .i64 0, .int .i64 0, .int .u8 0, .int .u16 0, .slice none 0 0, .slice none 0 0, .int .i64 0, .bool false, .int .u8 0, .int .u8 0, .int .u8 0, .bool false, .int .u8 0, .int .u8 0, .int .u8 0, .int .u16 0, .bool false, .bool false, .int .u8 0, .int .u8 0, .int .u8 0, .int .u16 0, .bool false, .bool false, .int .u8 0] 36)
 have PZ := ab.mk (show Pl w a w2.heap.size w3.heap.size A0 c0 l0 (w3.alloc (.cells #[.bool false, .string ⟨#[]⟩, .int .u8 0, .int .i64 0, .bool false, .bool false, .bool false, .int .i64 0, .int .i64 0, .int .u8 0, .int .u16 0, .slice none 0 0, .slice none 0 0, .int .i64 0, .bool false, .int .u8 0, .int .u8 0, .int .u8 0, .bool false, .int .u8 0, .int .u8 0, .int .u8 0, .int .u16 0, .bool false, .bool false, .int .u8 0, .int .u8 0, .int .u8 0, .int .u16 0, .bool false, .bool false, .int .u8 0] 36)) (newC l0) (newC l0) A2 c2 from ⟨(CA.out.below hb).below hz, hRa.below hz, hRa.ram.offTop, ak (ak HB2.out hb) hz, by simp⟩)
 have BZ := ab.mk (bo.new w3 [.bool false, .string ⟨#[]⟩, .int .u8 0, .int .i64 0, .bool false, .bool false, .bool false, .int .i64 0, .int .i64 0, .int .u8 0, .int .u16 0, .slice none 0 0, .slice none 0 0, .int .i64 0, .bool false, .int .u8 0, .int .u8 0, .int .u8 0, .bool false, .int .u8 0, .int .u8 0, .int .u8 0, .int .u16 0, .bool false, .bool false, .int .u8 0, .int .u8 0, .int .u8 0, .int .u16 0, .bool false, .bool false, .int .u8 0] rfl)
 have SZ := ab.mk (Saved.nil (w3.alloc (.cells #[.bool false, .string ⟨#[]⟩, .int .u8 0, .int .i64 0, .bool false, .bool false, .bool false, .int .i64 0, .int .i64 0, .int .u8 0, .int .u16 0, .slice none 0 0, .slice none 0 0, .int .i64 0, .bool false, .int .u8 0, .int .u8 0, .int .u8 0, .bool false, .int .u8 0, .int .u8 0, .int .u8 0, .int .u16 0, .bool false, .bool false, .int .u8 0, .int .u8 0, .int .u8 0, .int .u16 0, .bool false, .bool false, .int .u8 0] 36)) w2.heap.size w3.heap.size)
 have WH := ab.mk (Whole.new HBY.out HE.out)
 clear hRa hb hz CA HB2 HA1 HA3
 go_wp2_with (first
  | ((with_reducible refine az (t := 36) (p := 8) (v := .tmp 27) rfl ?_); have P0 := ab.mk (PZ.out.stored K.out rfl (⟨newC l0, A0, c0, A2, c2⟩ : Rt).cells); have BX := ab.mk (BZ.out.fill (⟨newC l0, A0, c0, A2, c2⟩ : Rt)); have S0 := ab.mk (SZ.out.stored (⟨newC l0, A0, c0, A2, c2⟩ : Rt).cells); refine wpList_store_mid rfl 36 (.tmp 8) (.tmp 27) rfl w3.heap.size 0 _ rfl rfl BZ.out.there (by kernel_rfl) (Rt.one _) ?_; clear PZ BZ SZ; generalize World.setCells _ w3.heap.size 0 _ = W4 at P0 BX S0 ⊢; simp only [Act.put, List.setIfInBounds_toArray, List.set_cons_zero, List.set_cons_succ]))
 go_loopw [10, 11] (fun v i w' => ∃ (j : Nat) (s : Ct) (Ar : Option Addr) (cr : Nat) (Al : Option Addr) (cl : Nat) (ll : List Int), v = .slice Al ll.length cl ∧ i = .int .i64 j ∧ ab (j ≤ l1.length ∧ j ≤ 60 ∧ Whole l0 s ∧ Pl w a w2.heap.size w3.heap.size A0 c0 l0 w' s s Ar cr ∧ ao w' w3.heap.size ⟨s, A0, c0, Ar, cr⟩ ∧ Saved w' w2.heap.size w3.heap.size Al cl ll)) (fun v i _ => 70 - (intOf i).toNat)
 case atStart => exact ⟨0, newC l0, A2, c2, none, 0, [], rfl, rfl, ab.mk ⟨by omega, by omega, WH.out, P0.out, BX.out, S0.out⟩⟩
 case round =>
  obtain ⟨j, s, Ar, cr, Al, cl, ll, rfl, rfl, HX⟩ := hrel
  obtain ⟨hj, hj60, hw_, hp_, hb_, hs_⟩ := HX.out
  clear HX P0 BX S0 WH
  have HL := ab.mk HR1.out.1
  have HJ := ab.mk hj
  have HJ6 := ab.mk hj60
  have WH := ab.mk hw_
  have P := ab.mk hp_
  have BX := ab.mk hb_
  have SV := ab.mk hs_
  clear hj hj60 hw_ hp_ hb_ hs_
  by_cases hj : (j : Int) < (l1.length : Int)
  case neg =>
   go_wp2
   go_returns
   exact ⟨rfl, P.out.hb⟩
  by_cases hk : (j : Int) < 60
  case neg =>
   go_wp2
   go_returns
   exact ⟨rfl, P.out.hb⟩
  obtain ⟨x, hx⟩ : ∃ x, l1[j]? = some x := ⟨_, List.getElem?_eq_getElem (by omega)⟩
  obtain ⟨hxo, ad, rfl, hat0⟩ := HR1.out.2 j x hx
  have HAT := ab.mk hat0
  have hat := hat0.below P.out.hb
  have c0_ := hat.c0
  have c1_ := hat.c1
  have c2_ := hat.c2
  have c3_ := hat.c3
  have HXO := ab.mk hxo
  have rel : ∀ (w' : World) (s' : Ct) (Ar' : Option Addr) (cr' : Nat) (Al' : Option Addr) (cl' : Nat) (ll' : List Int), Whole l0 s' → Pl w a w2.heap.size w3.heap.size A0 c0 l0 w' s' s' Ar' cr' → ao w' w3.heap.size ⟨s', A0, c0, Ar', cr'⟩ → Saved w' w2.heap.size w3.heap.size Al' cl' ll' → ∃ (j_ : Nat) (s : Ct) (Ar : Option Addr) (cr : Nat) (Al : Option Addr) (cl : Nat) (ll : List Int), (Value.slice Al' ll'.length cl') = .slice Al ll.length cl ∧ (Value.int .i64 ((j : Int) + 1)) = .int .i64 j_ ∧ ab (j_ ≤ l1.length ∧ j_ ≤ 60 ∧ Whole l0 s ∧ Pl w a w2.heap.size w3.heap.size A0 c0 l0 w' s s Ar cr ∧ ao w' w3.heap.size ⟨s, A0, c0, Ar, cr⟩ ∧ Saved w' w2.heap.size w3.heap.size Al cl ll) := by
   intro w' s' Ar' cr' Al' cl' ll' r1 r2 r3 r4
   exact ⟨j + 1, s', Ar', cr', Al', cl', ll', rfl, by simp, ab.mk ⟨by omega, by omega, r1, r2, r3, r4⟩⟩
  have REL := ab.mk rel
  clear rel hat hat0 hxo hx
  by_cases k1 : x.k = 1
  case pos =>
   rw [k1] at c0_
   go_wp2_with fail
   have hb := ac (Below.refl wr.heap.size wr) (.cells #[.int .i64 1, .int .u16 x.ad, .int .u8 x.v, .slice x.A x.b.length x.c] 51)
   have BA := ab.mk (aC wr (.cells #[.int .i64 1, .int .u16 x.ad, .int .u8 x.v, .slice x.A x.b.length x.c] 51))
   have P_ := ab.mk (P.out.below hb)
   have BX_ := ab.mk (BX.out.below hb)
   have SV_ := ab.mk (SV.out.below hb)
   have NL := ab.mk (P.out.ca.ltb)
   have NR := ab.mk (P.out.ca.ltr)
   clear P BX SV hb c0_ c1_ c2_ c3_
   generalize wr.alloc (.cells #[.int .i64 1, .int .u16 x.ad, .int .u8 x.v, .slice x.A x.b.length x.c] 51) = W5 at BA P_ BX_ SV_ ⊢
   have P := P_
   have BX := BX_
   have SV := SV_
   clear P_ BX_ SV_
   have HD := ab.mk (aj (Below.refl W5.heap.size W5))
   refine start_ (n := 9) (S := fun w' => w'.rangeAt w3.heap.size 0 (⟨s, A0, c0, Ar, cr⟩ : Rt).cells ∧ w'.cell? ⟨wr.heap.size, 1, none⟩ = some (.int .u16 x.ad)) (ds := []) #[false, false, false, false, false, false, false, false, false] (by kernel_rfl) rfl rfl ⟨ao.range (BX.out.below HD.out), (aa (af BA.out HD.out) 1).trans rfl⟩ (fun hHeld => ?_)
   refine with_tabW plays13.tab plays13.bits (fun HT_ HW_ => ?_)
   refine bn (i := 0) (N := some 61) (v := ?_) (a' := ?_) #[true, false, false, false, false, false, false, false, false] rfl rfl (ba HT_.out (by kernel_rfl)) (fun _ _ _ h => h) (Or.inl ⟨by rfl, ?_⟩) ?_ ?_
   rotate_left
   ·intro w'
    go_simp
    with_reducible rfl
   rotate_left
   ·simp only [Act.put, List.setIfInBounds_toArray, List.set_cons_zero, List.set_cons_succ, aQ, aT]
    rfl
   refine bn (i := 1) (N := some 62) (v := ?_) (a' := ?_) #[true, true, false, false, false, false, false, false, false] rfl rfl (ba HT_.out (by kernel_rfl)) (fun _ _ _ h => h) (Or.inl ⟨by rfl, ?_⟩) ?_ ?_
   rotate_left
   ·intro w'
    go_simp
    with_reducible rfl
   rotate_left
   ·simp only [Act.put, List.setIfInBounds_toArray, List.set_cons_zero, List.set_cons_succ, aQ, aT]
    rfl
   refine bn (i := 5) (N := some 66) (v := ?_) (a' := ?_) #[true, true, false, false, false, true, false, false, false] rfl rfl (ba HT_.out (by kernel_rfl)) (fun _ _ _ h => h) (Or.inl ⟨by rfl, ?_⟩) ?_ ?_
   rotate_left
   ·intro w'
    go_simp
    with_reducible rfl
   rotate_left
   ·simp only [Act.put, List.setIfInBounds_toArray, List.set_cons_zero, List.set_cons_succ, aQ, aT]
    rfl
   refine bT (i := 2) (N := some 63) (v := ?_) (a' := ?_) #[true, true, true, false, false, true, false, false, false] rfl rfl (bg HT_.out HW_.out (by kernel_rfl)) (fun _ _ _ h => h) (Or.inl ⟨by rfl, ?_⟩) hHeld ?_ ?_
   rotate_left
   ·rintro w' ⟨s0, s1⟩
    go_simp
    with_reducible rfl
   rotate_left
   ·simp only [Act.put, List.setIfInBounds_toArray, List.set_cons_zero, List.set_cons_succ, aQ, aT]
    rfl
   refine bT (i := 4) (N := some 65) (a' := ?_) #[true, true, true, false, true, true, false, false, false] rfl rfl (bg HT_.out HW_.out (by kernel_rfl)) (fun _ _ _ h => h) (yieldsIf_load_mid (by rfl) 36 (.tmp 8) rfl w3.heap.size 0 rfl (⟨s, A0, c0, Ar, cr⟩ : Rt).cells _ (fun w' hw' => hw'.1) rfl rfl (by kernel_rfl)) hHeld ?_ ?_
   rotate_left
   ·simp only [Act.put, List.setIfInBounds_toArray, List.set_cons_zero, List.set_cons_succ, aQ, aT]
    rfl
   refine bT (i := 6) (N := some 67) (v := ?_) (a' := ?_) #[true, true, true, false, true, true, true, false, false] rfl rfl (bg HT_.out HW_.out (by kernel_rfl)) (fun _ _ _ h => h) (Or.inl ⟨by rfl, ?_⟩) hHeld ?_ ?_
   rotate_left
   ·rintro w' ⟨s0, s1⟩
    go_simp
    with_reducible rfl
   rotate_left
   ·simp only [Act.put, List.setIfInBounds_toArray, List.set_cons_zero, List.set_cons_succ, aQ, aT]
    rfl
   refine one_ (i := 3) (N := some 64) #[true, true, true, true, true, true, true, false, false] rfl rfl (one_of HT_.out (by kernel_rfl)) (by decide) (fun K hK => ?_)
   refine goes_ Try.func13 (by kernel_rfl) rfl #[a.p, .int .u16 x.ad] (by rfl) rfl rfl (by (try simp only [List.map_toArray, List.map_cons, List.map_nil]); first | done | rfl) ?_
   refine (read_at (P.out.below HD.out).ca WH.out.ok x.ad ⟨HXO.out.a0, HXO.out.a1⟩).mono ?_
   rintro e' w6 ⟨rfl, hb⟩
   have HX := ab.mk (ak HD.out hb)
   clear hb
   refine ⟨_, rfl, ?_⟩
   refine hK.out _ _ ⟨ao.range (BX.out.below HX.out), (aa (af BA.out HX.out) 1).trans rfl⟩ (fun hHeld => ?_)
   clear hK K
   refine norm_ (a' := ?_) ?_ ?_
   rotate_left
   ·show Act.put _ (some 64) _ = _
    simp only [Act.put, List.setIfInBounds_toArray, List.set_cons_zero, List.set_cons_succ, aQ, aT]
    rfl
   refine one_ (i := 7) (N := some 68) #[true, true, true, true, true, true, true, true, false] rfl rfl (one_of HT_.out (by kernel_rfl)) (by decide) (fun K hK => ?_)
   refine goes_ Try.func14 (by kernel_rfl) rfl #[(⟨s, A0, c0, Ar, cr⟩ : Rt).v, .int .u16 x.ad] (by rfl) rfl rfl (by (try simp only [List.map_toArray, List.map_cons, List.map_nil]); first | done | rfl) ?_
   refine (rread_at s A0 c0 Ar cr (P.out.below HX.out).ra WH.out.ok WH.out.nm x.ad ⟨HXO.out.a0, HXO.out.a1⟩).mono ?_
   rintro e' w7 ⟨rfl, hb⟩
   have HY := ab.mk (ak HX.out hb)
   clear hb
   refine ⟨_, rfl, ?_⟩
   refine hK.out _ _ ⟨ao.range (BX.out.below HY.out), (aa (af BA.out HY.out) 1).trans rfl⟩ (fun hHeld => ?_)
   clear hK K
   refine norm_ (a' := ?_) ?_ ?_
   rotate_left
   ·show Act.put _ (some 68) _ = _
    simp only [Act.put, List.setIfInBounds_toArray, List.set_cons_zero, List.set_cons_succ, aQ, aT]
    rfl
   refine bn (i := 8) (N := some 69) (v := ?_) (a' := ?_) #[true, true, true, true, true, true, true, true, true] rfl rfl (ba HT_.out (by kernel_rfl)) (fun _ _ _ h => h) (Or.inl ⟨by rfl, ?_⟩) ?_ ?_
   rotate_left
   ·intro w'
    go_simp
    with_reducible rfl
   rotate_left
   ·simp only [Act.put, List.setIfInBounds_toArray, List.set_cons_zero, List.set_cons_succ, aQ, aT]
    rfl
   refine done_ (done_of HT_.out (by kernel_rfl)) ?_
   have P_ := ab.mk (P.out.below HY.out)
   have BX_ := ab.mk (BX.out.below HY.out)
   have SV_ := ab.mk (SV.out.below HY.out)
   clear P BX SV
   have P := P_
   have BX := BX_
   have SV := SV_
   clear P_ BX_ SV_
   go_wp2_with (first
     | ((with_reducible refine ar (N := 123) rfl ?_); refine wpList_load_mid rfl 36 (.tmp 8) rfl w3.heap.size 0 rfl _ _ (ao.range BX.out) rfl rfl (by kernel_rfl) ?_; simp only [Act.put, List.setIfInBounds_toArray, List.set_cons_zero, List.set_cons_succ]))
   refine (alike_at s A0 c0 Ar cr P.out.ca WH.out.ok P.out.ra).mono ?_
   rintro e' wz ⟨rfl, hb⟩
   have q := REL.out wz s Ar cr Al cl ll WH.out (P.out.below hb) (BX.out.below hb) (SV.out.below hb)
   clear hb P BX SV REL
   go_wp2
   exact ⟨q, by simp [intOf]; omega⟩
  case neg =>
  by_cases k2 : x.k = 2
  case pos =>
   rw [k2] at c0_
   go_wp2_with fail
   have hb := ac (Below.refl wr.heap.size wr) (.cells #[.int .i64 2, .int .u16 x.ad, .int .u8 x.v, .slice x.A x.b.length x.c] 51)
   have BA := ab.mk (aC wr (.cells #[.int .i64 2, .int .u16 x.ad, .int .u8 x.v, .slice x.A x.b.length x.c] 51))
   have P_ := ab.mk (P.out.below hb)
   have BX_ := ab.mk (BX.out.below hb)
   have SV_ := ab.mk (SV.out.below hb)
   have NL := ab.mk (P.out.ca.ltb)
   have NR := ab.mk (P.out.ca.ltr)
   clear P BX SV hb c0_ c1_ c2_ c3_
   generalize wr.alloc (.cells #[.int .i64 2, .int .u16 x.ad, .int .u8 x.v, .slice x.A x.b.length x.c] 51) = W5 at BA P_ BX_ SV_ ⊢
   have P := P_
   have BX := BX_
   have SV := SV_
   clear P_ BX_ SV_
   refine (write_at P.out.ca WH.out.ok x.ad x.v ⟨HXO.out.a0, HXO.out.a1⟩).mono ?_
   rintro e' w6 ⟨rfl, hC, hu⟩
   have P_ := ab.mk (P.out.cart K.out WH.out.img hC hu)
   have BX_ := ab.mk (BX.out.cart K.out hu)
   have SV_ := ab.mk (SV.out.cart K.out hu)
   have BA_ := ab.mk (hu.blk BA.out (by have := NL.out; have := NR.out; rintro (q | q) <;> omega))
   clear P BX SV BA hC hu
   have P := P_
   have BX := BX_
   have SV := SV_
   have BA := BA_
   clear P_ BX_ SV_ BA_
   have d1 : w6.cell? ⟨wr.heap.size, 1, none⟩ = some (.int .u16 x.ad) := (aa BA.out 1).trans rfl
   have d2 : w6.cell? ⟨wr.heap.size, 2, none⟩ = some (.int .u8 x.v) := (aa BA.out 2).trans rfl
   go_wp2_with ((with_reducible refine ar (N := 78) rfl ?_); refine wpList_load_mid rfl 36 (.tmp 8) rfl w3.heap.size 0 rfl _ _ (ao.range BX.out) rfl rfl (by kernel_rfl) ?_; simp only [Act.put, List.setIfInBounds_toArray, List.set_cons_zero, List.set_cons_succ])
   refine (rwrite_at s A0 c0 Ar cr P.out.ra (by have := K.out.gb; have := P.out.lt; omega) WH.out.ok WH.out.nm x.ad x.v ⟨HXO.out.a0, HXO.out.a1⟩ ⟨HXO.out.v0, HXO.out.v1⟩).mono ?_
   rintro e' w7 ⟨A', c', rfl, hra, ho, hb⟩
   have P_ := ab.mk (P.out.refd hra ho hb)
   have BX_ := ab.mk (BX.out.below hb)
   have SV_ := ab.mk (SV.out.below hb)
   clear P BX SV BA hra ho hb
   have P := P_
   have BX := BX_
   have SV := SV_
   clear P_ BX_ SV_
   clear d1 d2
   have WH2 := ab.mk (WH.out.write x.ad x.v ⟨HXO.out.v0, HXO.out.v1⟩)
   go_wp2_with (first
     | ((with_reducible refine az (t := 36) (p := 8) (v := .tmp 83) rfl ?_); have P_ := ab.mk (P.out.stored K.out WH2.out.img (⟨s.write x.ad x.v, A0, c0, A', c'⟩ : Rt).cells); have BX_ := ab.mk (BX.out.fill (⟨s.write x.ad x.v, A0, c0, A', c'⟩ : Rt)); have SV_ := ab.mk (SV.out.stored (⟨s.write x.ad x.v, A0, c0, A', c'⟩ : Rt).cells); refine wpList_store_mid rfl 36 (.tmp 8) (.tmp 83) rfl w3.heap.size 0 _ rfl rfl (BX.out.thereAt 0 32 (by decide)) (by kernel_rfl) (Rt.one _) ?_; clear P BX SV; have P := P_; have BX := BX_; have SV := SV_; clear P_ BX_ SV_; generalize World.setCells _ w3.heap.size 0 _ = W9 at P BX SV ⊢; simp only [Act.put, List.setIfInBounds_toArray, List.set_cons_zero, List.set_cons_succ])
     | ((with_reducible refine ar (N := 123) rfl ?_); refine wpList_load_mid rfl 36 (.tmp 8) rfl w3.heap.size 0 rfl _ _ (ao.range BX.out) rfl rfl (by kernel_rfl) ?_; simp only [Act.put, List.setIfInBounds_toArray, List.set_cons_zero, List.set_cons_succ]))
   refine (alike_at (s.write x.ad x.v) A0 c0 A' c' P.out.ca WH2.out.ok P.out.ra).mono ?_
   rintro e' wz ⟨rfl, hb⟩
   have q := REL.out wz (s.write x.ad x.v) A' c' Al cl ll WH2.out (P.out.below hb) (BX.out.below hb) (SV.out.below hb)
   clear hb P BX SV REL
   go_wp2
   exact ⟨q, by simp [intOf]; omega⟩
  case neg =>
  by_cases k3 : x.k = 3
  case pos =>
   rw [k3] at c0_
   go_wp2_with fail
   have hb := ac (Below.refl wr.heap.size wr) (.cells #[.int .i64 3, .int .u16 x.ad, .int .u8 x.v, .slice x.A x.b.length x.c] 51)
   have BA := ab.mk (aC wr (.cells #[.int .i64 3, .int .u16 x.ad, .int .u8 x.v, .slice x.A x.b.length x.c] 51))
   have P_ := ab.mk (P.out.below hb)
   have BX_ := ab.mk (BX.out.below hb)
   have SV_ := ab.mk (SV.out.below hb)
   have NL := ab.mk (P.out.ca.ltb)
   have NR := ab.mk (P.out.ca.ltr)
   clear P BX SV hb c0_ c1_ c2_ c3_
   generalize wr.alloc (.cells #[.int .i64 3, .int .u16 x.ad, .int .u8 x.v, .slice x.A x.b.length x.c] 51) = W5 at BA P_ BX_ SV_ ⊢
   have P := P_
   have BX := BX_
   have SV := SV_
   clear P_ BX_ SV_
   refine (tick_all P.out.ca).mono ?_
   rintro e' w6 ⟨rfl, hC, hu⟩
   have P_ := ab.mk (P.out.cart K.out WH.out.img hC hu)
   have BX_ := ab.mk (BX.out.cart K.out hu)
   have SV_ := ab.mk (SV.out.cart K.out hu)
   have BA_ := ab.mk (hu.blk BA.out (by have := NL.out; have := NR.out; rintro (q | q) <;> omega))
   clear P BX SV BA hC hu
   have P := P_
   have BX := BX_
   have SV := SV_
   have BA := BA_
   clear P_ BX_ SV_ BA_
   go_wp2_with ((with_reducible refine ar (N := 88) rfl ?_); refine wpList_load_mid rfl 36 (.tmp 8) rfl w3.heap.size 0 rfl _ _ (ao.range BX.out) rfl rfl (by kernel_rfl) ?_; simp only [Act.put, List.setIfInBounds_toArray, List.set_cons_zero, List.set_cons_succ])
   refine (rtick_at s A0 c0 Ar cr P.out.ra WH.out.nm).mono ?_
   rintro e' w7 ⟨A', c', rfl, hra, ho, hb⟩
   have P_ := ab.mk (P.out.refd hra ho hb)
   have BX_ := ab.mk (BX.out.below hb)
   have SV_ := ab.mk (SV.out.below hb)
   clear P BX SV BA hra ho hb
   have P := P_
   have BX := BX_
   have SV := SV_
   clear P_ BX_ SV_
   have WH2 := ab.mk WH.out.tick
   go_wp2_with (first
     | ((with_reducible refine az (t := 36) (p := 8) (v := .tmp 89) rfl ?_); have P_ := ab.mk (P.out.stored K.out WH2.out.img (⟨s.tick, A0, c0, A', c'⟩ : Rt).cells); have BX_ := ab.mk (BX.out.fill (⟨s.tick, A0, c0, A', c'⟩ : Rt)); have SV_ := ab.mk (SV.out.stored (⟨s.tick, A0, c0, A', c'⟩ : Rt).cells); refine wpList_store_mid rfl 36 (.tmp 8) (.tmp 89) rfl w3.heap.size 0 _ rfl rfl (BX.out.thereAt 0 32 (by decide)) (by kernel_rfl) (Rt.one _) ?_; clear P BX SV; have P := P_; have BX := BX_; have SV := SV_; clear P_ BX_ SV_; generalize World.setCells _ w3.heap.size 0 _ = W9 at P BX SV ⊢; simp only [Act.put, List.setIfInBounds_toArray, List.set_cons_zero, List.set_cons_succ])
     | ((with_reducible refine ar (N := 123) rfl ?_); refine wpList_load_mid rfl 36 (.tmp 8) rfl w3.heap.size 0 rfl _ _ (ao.range BX.out) rfl rfl (by kernel_rfl) ?_; simp only [Act.put, List.setIfInBounds_toArray, List.set_cons_zero, List.set_cons_succ]))
   refine (alike_at s.tick A0 c0 A' c' P.out.ca WH2.out.ok P.out.ra).mono ?_
   rintro e' wz ⟨rfl, hb⟩
   have q := REL.out wz s.tick A' c' Al cl ll WH2.out (P.out.below hb) (BX.out.below hb) (SV.out.below hb)
   clear hb P BX SV REL
   go_wp2
   exact ⟨q, by simp [intOf]; omega⟩
  case neg =>
  by_cases k4 : x.k = 4
  case pos =>
   rw [k4] at c0_
   go_wp2_with fail
   have hb := ac (Below.refl wr.heap.size wr) (.cells #[.int .i64 4, .int .u16 x.ad, .int .u8 x.v, .slice x.A x.b.length x.c] 51)
   have BA := ab.mk (aC wr (.cells #[.int .i64 4, .int .u16 x.ad, .int .u8 x.v, .slice x.A x.b.length x.c] 51))
   have P_ := ab.mk (P.out.below hb)
   have BX_ := ab.mk (BX.out.below hb)
   have SV_ := ab.mk (SV.out.below hb)
   have NL := ab.mk (P.out.ca.ltb)
   have NR := ab.mk (P.out.ca.ltr)
   clear P BX SV hb c0_ c1_ c2_ c3_
   generalize wr.alloc (.cells #[.int .i64 4, .int .u16 x.ad, .int .u8 x.v, .slice x.A x.b.length x.c] 51) = W5 at BA P_ BX_ SV_ ⊢
   have P := P_
   have BX := BX_
   have SV := SV_
   clear P_ BX_ SV_
   refine (save_at P.out.ca WH.out.ok).mono ?_
   rintro e' w6 ⟨v7, rfl, hR, hb⟩
   obtain ⟨A7, c7, rfl, hH⟩ := held_of_R hR
   have P_ := ab.mk (P.out.below hb)
   have BX_ := ab.mk (BX.out.below hb)
   have SV_ := ab.mk (show Saved w6 w2.heap.size w3.heap.size A7 c7 s.saveL from ⟨hH.base (by have := K.out.gb; have := P.out.lt; omega), hH.off _ P.out.lt, saveL_bytes WH.out.nm WH.out.br⟩)
   clear P BX SV BA hb hR hH
   have P := P_
   have BX := BX_
   have SV := SV_
   clear P_ BX_ SV_
   go_wp2_with fail
   have HD := ab.mk (aj (Below.refl w6.heap.size w6))
   refine start_ (n := 6) (S := fun w' => w'.rangeAt w3.heap.size 0 (⟨s, A0, c0, Ar, cr⟩ : Rt).cells ∧ (convert 22 9 (.slice A7 s.saveL.length c7)).run Try.prog w' = .ok (.string (strOfNums s.saveL)) w') (ds := []) #[false, false, false, false, false, false] (by kernel_rfl) rfl rfl ⟨ao.range (BX.out.below HD.out), (SV.out.h.below HD.out).text⟩ (fun hHeld => ?_)
   refine with_tabW plays23.tab plays23.bits (fun HT_ HW_ => ?_)
   refine bn (i := 0) (N := some 94) (v := ?_) (a' := ?_) #[true, false, false, false, false, false] rfl rfl (ba HT_.out (by kernel_rfl)) (fun _ _ _ h => h) (Or.inl ⟨by rfl, ?_⟩) ?_ ?_
   rotate_left
   ·intro w'
    go_simp
    with_reducible rfl
   rotate_left
   ·simp only [Act.put, List.setIfInBounds_toArray, List.set_cons_zero, List.set_cons_succ, aQ, aT]
    rfl
   refine bT (i := 1) (N := some 95) (v := ?_) (a' := ?_) #[true, true, false, false, false, false] rfl rfl (bg HT_.out HW_.out (by kernel_rfl)) (fun _ _ _ h => h) (Or.inl ⟨by rfl, ?_⟩) hHeld ?_ ?_
   rotate_left
   ·rintro w' ⟨s0, s1⟩
    go_simp
    with_reducible rfl
   rotate_left
   ·simp only [Act.put, List.setIfInBounds_toArray, List.set_cons_zero, List.set_cons_succ, aQ, aT]
    rfl
   refine bT (i := 2) (N := some 96) (a' := ?_) #[true, true, true, false, false, false] rfl rfl (bg HT_.out HW_.out (by kernel_rfl)) (fun _ _ _ h => h) (yieldsIf_load_mid (by rfl) 36 (.tmp 8) rfl w3.heap.size 0 rfl (⟨s, A0, c0, Ar, cr⟩ : Rt).cells _ (fun w' hw' => hw'.1) rfl rfl (by kernel_rfl)) hHeld ?_ ?_
   rotate_left
   ·simp only [Act.put, List.setIfInBounds_toArray, List.set_cons_zero, List.set_cons_succ, aQ, aT]
    rfl
   refine one_ (i := 3) (N := some 97) #[true, true, true, true, false, false] rfl rfl (one_of HT_.out (by kernel_rfl)) (by decide) (fun K hK => ?_)
   refine goes_ Try.func23 (by kernel_rfl) rfl #[(⟨s, A0, c0, Ar, cr⟩ : Rt).v] (by rfl) rfl rfl (by (try simp only [List.map_toArray, List.map_cons, List.map_nil]); first | done | rfl) ?_
   refine (rsave_at s A0 c0 Ar cr (P.out.below HD.out).ra WH.out.ok WH.out.nm).mono ?_
   rintro e' w7 ⟨v8, rfl, hR, hb⟩
   obtain ⟨A8, c8, rfl, hH⟩ := held_of_R hR
   have T8 := ab.mk hH
   have HX := ab.mk (ak HD.out hb)
   clear hb hR hH
   refine ⟨_, rfl, ?_⟩
   refine hK.out _ _ ⟨ao.range (BX.out.below HX.out), (SV.out.h.below HX.out).text⟩ (fun hHeld => ?_)
   clear hK K
   refine norm_ (a' := ?_) ?_ ?_
   rotate_left
   ·show Act.put _ (some 97) _ = _
    simp only [Act.put, List.setIfInBounds_toArray, List.set_cons_zero, List.set_cons_succ, aQ, aT]
    rfl
   refine one_ (i := 4) (N := some 98) #[true, true, true, true, true, false] rfl rfl (one_of HT_.out (by kernel_rfl)) (by decide) (fun K hK => ?_)
   have ts_ := T8.out.text
   refine event_step (v := .string (strOfNums s.saveL)) (by rfl) (by go_simp; rfl) ?_
   refine hK.out _ _ ⟨ao.range (BX.out.below HX.out), (SV.out.h.below HX.out).text⟩ (fun hHeld => ?_)
   clear hK K
   refine norm_ (a' := ?_) ?_ ?_
   rotate_left
   ·show Act.put _ (some 98) _ = _
    simp only [Act.put, List.setIfInBounds_toArray, List.set_cons_zero, List.set_cons_succ, aQ, aT]
    rfl
   clear ts_
   refine bn (i := 5) (N := some 99) (v := ?_) (a' := ?_) #[true, true, true, true, true, true] rfl rfl (ba HT_.out (by kernel_rfl)) (fun _ _ _ h => h) (Or.inl ⟨by rfl, ?_⟩) ?_ ?_
   rotate_left
   ·intro w'
    go_simp
    with_reducible rfl
   rotate_left
   ·simp only [Act.put, List.setIfInBounds_toArray, List.set_cons_zero, List.set_cons_succ, aQ, aT]
    rfl
   refine done_ (done_of HT_.out (by kernel_rfl)) ?_
   have P_ := ab.mk (P.out.below HX.out)
   have BX_ := ab.mk (BX.out.below HX.out)
   have SV_ := ab.mk (SV.out.below HX.out)
   clear P BX SV
   have P := P_
   have BX := BX_
   have SV := SV_
   clear P_ BX_ SV_
   go_wp2_with (first
     | ((with_reducible refine ar (N := 123) rfl ?_); refine wpList_load_mid rfl 36 (.tmp 8) rfl w3.heap.size 0 rfl _ _ (ao.range BX.out) rfl rfl (by kernel_rfl) ?_; simp only [Act.put, List.setIfInBounds_toArray, List.set_cons_zero, List.set_cons_succ]))
   refine (alike_at s A0 c0 Ar cr P.out.ca WH.out.ok P.out.ra).mono ?_
   rintro e' wz ⟨rfl, hb⟩
   have q := REL.out wz s Ar cr A7 c7 s.saveL WH.out (P.out.below hb) (BX.out.below hb) (SV.out.below hb)
   clear hb P BX SV REL
   go_wp2
   exact ⟨q, by simp [intOf]; omega⟩
  case neg =>
  by_cases k5 : x.k = 5
  case pos =>
   rw [k5] at c0_
   go_wp2_with fail
   have hb := ac (Below.refl wr.heap.size wr) (.cells #[.int .i64 5, .int .u16 x.ad, .int .u8 x.v, .slice x.A x.b.length x.c] 51)
   have BA := ab.mk (aC wr (.cells #[.int .i64 5, .int .u16 x.ad, .int .u8 x.v, .slice x.A x.b.length x.c] 51))
   have P_ := ab.mk (P.out.below hb)
   have BX_ := ab.mk (BX.out.below hb)
   have SV_ := ab.mk (SV.out.below hb)
   have NL := ab.mk (P.out.ca.ltb)
   have NR := ab.mk (P.out.ca.ltr)
   clear P BX SV hb c0_ c1_ c2_ c3_
   generalize wr.alloc (.cells #[.int .i64 5, .int .u16 x.ad, .int .u8 x.v, .slice x.A x.b.length x.c] 51) = W5 at BA P_ BX_ SV_ ⊢
   have P := P_
   have BX := BX_
   have SV := SV_
   clear P_ BX_ SV_
   have d0 : W5.cell? ⟨wr.heap.size, 0, none⟩ = some (.int .i64 5) := (aa BA.out 0).trans rfl
   have d3 : W5.cell? ⟨wr.heap.size, 3, none⟩ = some (.slice x.A x.b.length x.c) := (aa BA.out 3).trans rfl
   go_wp2_with fail
   refine (load_at P.out.ca WH.out.ok x.A x.c x.b (Kd.C_below HAT.out.hb P.out.hb) HAT.out.hc (fun h0 => bytes_old HAT.out.hb h0 _ K.out.b0)).mono ?_
   rintro e' w6 ⟨rfl, hC, hu⟩
   clear d0 d3
   have P_ := ab.mk (P.out.cart K.out WH.out.img hC hu)
   have BX_ := ab.mk (BX.out.cart K.out hu)
   have SV_ := ab.mk (SV.out.cart K.out hu)
   have BA_ := ab.mk (hu.blk BA.out (by have := NL.out; have := NR.out; rintro (q | q) <;> omega))
   clear P BX SV BA hC hu
   have P := P_
   have BX := BX_
   have SV := SV_
   have BA := BA_
   clear P_ BX_ SV_ BA_
   go_wp2_with ((with_reducible refine ar (N := 113) rfl ?_); refine wpList_load_mid rfl 36 (.tmp 8) rfl w3.heap.size 0 rfl _ _ (ao.range BX.out) rfl rfl (by kernel_rfl) ?_; simp only [Act.put, List.setIfInBounds_toArray, List.set_cons_zero, List.set_cons_succ])
   refine (rload_at s A0 c0 Ar cr P.out.ra (by have := K.out.gb; have := P.out.lt; omega) WH.out.ok WH.out.nm x.A x.c x.b HXO.out.b (Kd.C_below HAT.out.hb P.out.hb) HAT.out.hc).mono ?_
   rintro e' w7 ⟨A', c', rfl, hra, ho, hb⟩
   have P_ := ab.mk (P.out.refd hra ho hb)
   have BX_ := ab.mk (BX.out.below hb)
   have SV_ := ab.mk (SV.out.below hb)
   clear P BX SV BA hra ho hb
   have P := P_
   have BX := BX_
   have SV := SV_
   clear P_ BX_ SV_
   have WH2 := ab.mk (WH.out.load HXO.out.b)
   go_wp2_with (first
     | ((with_reducible refine az (t := 36) (p := 15) (v := .tmp 116) rfl ?_); have hz := ay (ac (Below.refl w7.heap.size w7) (.cells #[.bool false, .string ⟨#[]⟩, .int .u8 0, .int .i64 0, .bool false, .bool false, .bool false, .int .i64 0, .int .i64 0, .int .u8 0, .int .u16 0, .slice none 0 0, .slice none 0 0, .int .i64 0, .bool false, .int .u8 0, .int .u8 0, .int .u8 0, .bool false, .int .u8 0, .int .u8 0, .int .u8 0, .int .u16 0, .bool false, .bool false, .int .u8 0, .int .u8 0, .int .u8 0, .int .u16 0, .bool false, .bool false, .int .u8 0] 36)) w7.heap.size 0 (Nat.le_refl _) (⟨s.loadS x.b, A0, c0, A', c'⟩ : Rt).cells; have BN := ab.mk ((bo.new w7 [.bool false, .string ⟨#[]⟩, .int .u8 0, .int .i64 0, .bool false, .bool false, .bool false, .int .i64 0, .int .i64 0, .int .u8 0, .int .u16 0, .slice none 0 0, .slice none 0 0, .int .i64 0, .bool false, .int .u8 0, .int .u8 0, .int .u8 0, .bool false, .int .u8 0, .int .u8 0, .int .u8 0, .int .u16 0, .bool false, .bool false, .int .u8 0, .int .u8 0, .int .u8 0, .int .u16 0, .bool false, .bool false, .int .u8 0] rfl).fill (⟨s.loadS x.b, A0, c0, A', c'⟩ : Rt)); have P_ := ab.mk (P.out.below hz); have BX_ := ab.mk (BX.out.below hz); have SV_ := ab.mk (SV.out.below hz); refine wpList_store_mid rfl 36 (.tmp 15) (.tmp 116) rfl w7.heap.size 0 _ rfl rfl (bo.new w7 [.bool false, .string ⟨#[]⟩, .int .u8 0, .int .i64 0, .bool false, .bool false, .bool false, .int .i64 0, .int .i64 0, .int .u8 0, .int .u16 0, .slice none 0 0, .slice none 0 0, .int .i64 0, .bool false, .int .u8 0, .int .u8 0, .int .u8 0, .bool false, .int .u8 0, .int .u8 0, .int .u8 0, .int .u16 0, .bool false, .bool false, .int .u8 0, .int .u8 0, .int .u8 0, .int .u16 0, .bool false, .bool false, .int .u8 0] rfl).there (by kernel_rfl) (Rt.one _) ?_; clear P BX SV hz; have P := P_; have BX := BX_; have SV := SV_; clear P_ BX_ SV_; generalize World.setCells _ w7.heap.size 0 _ = W8 at P BX SV BN ⊢; simp only [Act.put, List.setIfInBounds_toArray, List.set_cons_zero, List.set_cons_succ])
     | ((with_reducible refine ar (N := 118) rfl ?_); refine wpList_load_mid rfl 36 (.tmp 15) rfl w7.heap.size 0 rfl _ _ (ao.range BN.out) rfl rfl (by kernel_rfl) ?_; simp only [Act.put, List.setIfInBounds_toArray, List.set_cons_zero, List.set_cons_succ])
     | ((with_reducible refine az (t := 36) (p := 8) (v := .tmp 118) rfl ?_); have P_ := ab.mk (P.out.stored K.out WH2.out.img (⟨s.loadS x.b, A0, c0, A', c'⟩ : Rt).cells); have BX_ := ab.mk (BX.out.fill (⟨s.loadS x.b, A0, c0, A', c'⟩ : Rt)); have SV_ := ab.mk (SV.out.stored (⟨s.loadS x.b, A0, c0, A', c'⟩ : Rt).cells); refine wpList_store_mid rfl 36 (.tmp 8) (.tmp 118) rfl w3.heap.size 0 _ rfl rfl (BX.out.thereAt 0 32 (by decide)) (by kernel_rfl) (Rt.one _) ?_; clear P BX SV; have P := P_; have BX := BX_; have SV := SV_; clear P_ BX_ SV_; generalize World.setCells _ w3.heap.size 0 _ = W9 at P BX SV ⊢; simp only [Act.put, List.setIfInBounds_toArray, List.set_cons_zero, List.set_cons_succ])
     | ((with_reducible refine ar (N := 123) rfl ?_); refine wpList_load_mid rfl 36 (.tmp 8) rfl w3.heap.size 0 rfl _ _ (ao.range BX.out) rfl rfl (by kernel_rfl) ?_; simp only [Act.put, List.setIfInBounds_toArray, List.set_cons_zero, List.set_cons_succ]))
   refine (alike_at (s.loadS x.b) A0 c0 A' c' P.out.ca WH2.out.ok P.out.ra).mono ?_
   rintro e' wz ⟨rfl, hb⟩
   have q := REL.out wz (s.loadS x.b) A' c' Al cl ll WH2.out (P.out.below hb) (BX.out.below hb) (SV.out.below hb)
   clear hb P BX SV REL
   go_wp2
   exact ⟨q, by simp [intOf]; omega⟩
  case neg =>
  by_cases k6 : x.k = 6
  case pos =>
   rw [k6] at c0_
   go_wp2_with fail
   have hb := ac (Below.refl wr.heap.size wr) (.cells #[.int .i64 6, .int .u16 x.ad, .int .u8 x.v, .slice x.A x.b.length x.c] 51)
   have BA := ab.mk (aC wr (.cells #[.int .i64 6, .int .u16 x.ad, .int .u8 x.v, .slice x.A x.b.length x.c] 51))
   have P_ := ab.mk (P.out.below hb)
   have BX_ := ab.mk (BX.out.below hb)
   have SV_ := ab.mk (SV.out.below hb)
   have NL := ab.mk (P.out.ca.ltb)
   have NR := ab.mk (P.out.ca.ltr)
   clear P BX SV hb c0_ c1_ c2_ c3_
   generalize wr.alloc (.cells #[.int .i64 6, .int .u16 x.ad, .int .u8 x.v, .slice x.A x.b.length x.c] 51) = W5 at BA P_ BX_ SV_ ⊢
   have P := P_
   have BX := BX_
   have SV := SV_
   clear P_ BX_ SV_
   have d0 : W5.cell? ⟨wr.heap.size, 0, none⟩ = some (.int .i64 6) := (aa BA.out 0).trans rfl
   have d3 : W5.cell? ⟨wr.heap.size, 3, none⟩ = some (.slice x.A x.b.length x.c) := (aa BA.out 3).trans rfl
   go_wp2_with fail
   refine (load_at P.out.ca WH.out.ok Al cl ll SV.out.h.C SV.out.h.1 (fun h0 => held_out SV.out.h _ K.out.b h0)).mono ?_
   rintro e' w6 ⟨rfl, hC, hu⟩
   clear d0 d3
   have P_ := ab.mk (P.out.cart K.out WH.out.img hC hu)
   have BX_ := ab.mk (BX.out.cart K.out hu)
   have SV_ := ab.mk (SV.out.cart K.out hu)
   have BA_ := ab.mk (hu.blk BA.out (by have := NL.out; have := NR.out; rintro (q | q) <;> omega))
   clear P BX SV BA hC hu
   have P := P_
   have BX := BX_
   have SV := SV_
   have BA := BA_
   clear P_ BX_ SV_ BA_
   go_wp2_with ((with_reducible refine ar (N := 113) rfl ?_); refine wpList_load_mid rfl 36 (.tmp 8) rfl w3.heap.size 0 rfl _ _ (ao.range BX.out) rfl rfl (by kernel_rfl) ?_; simp only [Act.put, List.setIfInBounds_toArray, List.set_cons_zero, List.set_cons_succ])
   refine (rload_at s A0 c0 Ar cr P.out.ra (by have := K.out.gb; have := P.out.lt; omega) WH.out.ok WH.out.nm Al cl ll SV.out.br SV.out.h.C SV.out.h.1).mono ?_
   rintro e' w7 ⟨A', c', rfl, hra, ho, hb⟩
   have P_ := ab.mk (P.out.refd hra ho hb)
   have BX_ := ab.mk (BX.out.below hb)
   have SV_ := ab.mk (SV.out.below hb)
   clear P BX SV BA hra ho hb
   have P := P_
   have BX := BX_
   have SV := SV_
   clear P_ BX_ SV_
   have WH2 := ab.mk (WH.out.load SV.out.br)
   go_wp2_with (first
     | ((with_reducible refine az (t := 36) (p := 15) (v := .tmp 116) rfl ?_); have hz := ay (ac (Below.refl w7.heap.size w7) (.cells #[.bool false, .string ⟨#[]⟩, .int .u8 0, .int .i64 0, .bool false, .bool false, .bool false, .int .i64 0, .int .i64 0, .int .u8 0, .int .u16 0, .slice none 0 0, .slice none 0 0, .int .i64 0, .bool false, .int .u8 0, .int .u8 0, .int .u8 0, .bool false, .int .u8 0, .int .u8 0, .int .u8 0, .int .u16 0, .bool false, .bool false, .int .u8 0, .int .u8 0, .int .u8 0, .int .u16 0, .bool false, .bool false, .int .u8 0] 36)) w7.heap.size 0 (Nat.le_refl _) (⟨s.loadS ll, A0, c0, A', c'⟩ : Rt).cells; have BN := ab.mk ((bo.new w7 [.bool false, .string ⟨#[]⟩, .int .u8 0, .int .i64 0, .bool false, .bool false, .bool false, .int .i64 0, .int .i64 0, .int .u8 0, .int .u16 0, .slice none 0 0, .slice none 0 0, .int .i64 0, .bool false, .int .u8 0, .int .u8 0, .int .u8 0, .bool false, .int .u8 0, .int .u8 0, .int .u8 0, .int .u16 0, .bool false, .bool false, .int .u8 0, .int .u8 0, .int .u8 0, .int .u16 0, .bool false, .bool false, .int .u8 0] rfl).fill (⟨s.loadS ll, A0, c0, A', c'⟩ : Rt)); have P_ := ab.mk (P.out.below hz); have BX_ := ab.mk (BX.out.below hz); have SV_ := ab.mk (SV.out.below hz); refine wpList_store_mid rfl 36 (.tmp 15) (.tmp 116) rfl w7.heap.size 0 _ rfl rfl (bo.new w7 [.bool false, .string ⟨#[]⟩, .int .u8 0, .int .i64 0, .bool false, .bool false, .bool false, .int .i64 0, .int .i64 0, .int .u8 0, .int .u16 0, .slice none 0 0, .slice none 0 0, .int .i64 0, .bool false, .int .u8 0, .int .u8 0, .int .u8 0, .bool false, .int .u8 0, .int .u8 0, .int .u8 0, .int .u16 0, .bool false, .bool false, .int .u8 0, .int .u8 0, .int .u8 0, .int .u16 0, .bool false, .bool false, .int .u8 0] rfl).there (by kernel_rfl) (Rt.one _) ?_; clear P BX SV hz; have P := P_; have BX := BX_; have SV := SV_; clear P_ BX_ SV_; generalize World.setCells _ w7.heap.size 0 _ = W8 at P BX SV BN ⊢; simp only [Act.put, List.setIfInBounds_toArray, List.set_cons_zero, List.set_cons_succ])
     | ((with_reducible refine ar (N := 118) rfl ?_); refine wpList_load_mid rfl 36 (.tmp 15) rfl w7.heap.size 0 rfl _ _ (ao.range BN.out) rfl rfl (by kernel_rfl) ?_; simp only [Act.put, List.setIfInBounds_toArray, List.set_cons_zero, List.set_cons_succ])
     | ((with_reducible refine az (t := 36) (p := 8) (v := .tmp 118) rfl ?_); have P_ := ab.mk (P.out.stored K.out WH2.out.img (⟨s.loadS ll, A0, c0, A', c'⟩ : Rt).cells); have BX_ := ab.mk (BX.out.fill (⟨s.loadS ll, A0, c0, A', c'⟩ : Rt)); have SV_ := ab.mk (SV.out.stored (⟨s.loadS ll, A0, c0, A', c'⟩ : Rt).cells); refine wpList_store_mid rfl 36 (.tmp 8) (.tmp 118) rfl w3.heap.size 0 _ rfl rfl (BX.out.thereAt 0 32 (by decide)) (by kernel_rfl) (Rt.one _) ?_; clear P BX SV; have P := P_; have BX := BX_; have SV := SV_; clear P_ BX_ SV_; generalize World.setCells _ w3.heap.size 0 _ = W9 at P BX SV ⊢; simp only [Act.put, List.setIfInBounds_toArray, List.set_cons_zero, List.set_cons_succ])
     | ((with_reducible refine ar (N := 123) rfl ?_); refine wpList_load_mid rfl 36 (.tmp 8) rfl w3.heap.size 0 rfl _ _ (ao.range BX.out) rfl rfl (by kernel_rfl) ?_; simp only [Act.put, List.setIfInBounds_toArray, List.set_cons_zero, List.set_cons_succ]))
   refine (alike_at (s.loadS ll) A0 c0 A' c' P.out.ca WH2.out.ok P.out.ra).mono ?_
   rintro e' wz ⟨rfl, hb⟩
   have q := REL.out wz (s.loadS ll) A' c' Al cl ll WH2.out (P.out.below hb) (BX.out.below hb) (SV.out.below hb)
   clear hb P BX SV REL
   go_wp2
   exact ⟨q, by simp [intOf]; omega⟩
  case neg =>
   have b1 : (x.k == 1) = false := beq_eq_false_iff_ne.mpr k1
   have b2 : (x.k == 2) = false := beq_eq_false_iff_ne.mpr k2
   have b3 : (x.k == 3) = false := beq_eq_false_iff_ne.mpr k3
   have b4 : (x.k == 4) = false := beq_eq_false_iff_ne.mpr k4
   have b5 : (x.k == 5) = false := beq_eq_false_iff_ne.mpr k5
   have b6 : (x.k == 6) = false := beq_eq_false_iff_ne.mpr k6
   clear k1 k2 k3 k4 k5 k6
   have hb := ac (Below.refl wr.heap.size wr) (.cells #[.int .i64 x.k, .int .u16 x.ad, .int .u8 x.v, .slice x.A x.b.length x.c] 51)
   have P_ := ab.mk (P.out.below hb)
   have BX_ := ab.mk (BX.out.below hb)
   have SV_ := ab.mk (SV.out.below hb)
   clear P BX SV hb
   have P := P_
   have BX := BX_
   have SV := SV_
   clear P_ BX_ SV_
   go_wp2_with (first
     | ((with_reducible refine ar (N := 123) rfl ?_); refine wpList_load_mid rfl 36 (.tmp 8) rfl w3.heap.size 0 rfl _ _ (ao.range BX.out) rfl rfl (by kernel_rfl) ?_; simp only [Act.put, List.setIfInBounds_toArray, List.set_cons_zero, List.set_cons_succ]))
   refine (alike_at s A0 c0 Ar cr P.out.ca WH.out.ok P.out.ra).mono ?_
   rintro e' wz ⟨rfl, hb⟩
   have q := REL.out wz s Ar cr Al cl ll WH.out (P.out.below hb) (BX.out.below hb) (SV.out.below hb)
   clear hb P BX SV REL
   go_wp2
   exact ⟨q, by simp [intOf]; omega⟩
theorem plays_no (A0 : Option Addr) (c0 : Nat) (l0 : List Int) (A1 : Option Addr) (c1 : Nat) (l1 : List Act1) (w : World) (hr0 : Kd.C (Kd.int .u8) w A0 l0.length l0) (hc0 : l0.length ≤ c0) (hb0 : Bytes l0) (hr1 : ActsAt w A1 l1) (hc1 : l1.length ≤ c1) (he : ¬ headE l0 = 0) :
  Calls Try.prog 5 #[.slice A0 l0.length c0, .slice A1 l1.length c1] w fun e w' => e = .returned (.bool true) ∧ Below w.heap.size w w' := by
 have HR0 := ab.mk hr0
 have HC0 := ab.mk hc0
 have HBY := ab.mk hb0
 have HR1 := ab.mk hr1
 have HC1 := ab.mk hc1
 have HE := ab.mk he
 clear hr0 hc0 hb0 hr1 hc1 he
 have hz1 : (headE l0 == 0) = false := beq_eq_false_iff_ne.mpr HE.out
 have hz2 : (headE l0 != 0) = true := by simp [HE.out]
 have hz3 : (headE l0 == headE l0) = true := by simp
 go_enter Try.func5, Try.ntmps5
 go_wp2_with fail
 refine (shown_at _).mono ?_
 rintro e' w1 ⟨rfl, hb⟩
 have HB := ab.mk hb
 clear hb
 go_wp2_with fail
 refine (new_no A0 c0 l0 w1 (Kd.C_below HR0.out HB.out) HC0.out HBY.out HE.out).mono ?_
 rintro e' w2 ⟨rfl, hb⟩
 have HB2 := ab.mk (ak HB.out hb)
 clear hb HB
 go_wp2_with fail
 refine (rnew_no A0 c0 l0 w2 (Kd.C_below HR0.out HB2.out) HC0.out HBY.out HE.out).mono ?_
 rintro e' w3 ⟨rfl, hb⟩
 have P := ab.mk (ac (ak HB2.out hb) (.cells #[.bool false, .string ⟨#[]⟩, .int .u8 0, .int .i64 0, .bool false, .bool false, .bool false, .int .i64 0, .int .i64 0, .int .u8 0, .int .u16 0, .slice none 0 0, .slice none 0 0, .int .i64 0, .bool false, .int .u8 0, .int .u8 0, .int .u8 0, .bool false, .int .u8 0, .int .u8 0, .int .u8 0, .int .u16 0, .bool false, .bool false, .int .u8 0, .int .u8 0, .int .u8 0, .int .u16 0, .bool false, .bool false, .int .u8 0] 36))
 have BX := ab.mk (show ZAt (w3.alloc (.cells #[.bool false, .string ⟨#[]⟩, .int .u8 0, .int .i64 0, .bool false, .bool false, .bool false, .int .i64 0, .int .i64 0, .int .u8 0, .int .u16 0, .slice none 0 0, .slice none 0 0, .int .i64 0, .bool false, .int .u8 0, .int .u8 0, .int .u8 0, .bool false, .int .u8 0, .int .u8 0, .int .u8 0, .int .u16 0, .bool false, .bool false, .int .u8 0, .int .u8 0, .int .u8 0, .int .u16 0, .bool false, .bool false, .int .u8 0] 36)) w3.heap.size from aC w3 (.cells #[.bool false, .string ⟨#[]⟩, .int .u8 0, .int .i64 0, .bool false, .bool false, .bool false, .int .i64 0, .int .i64 0, .int .u8 0, .int .u16 0, .slice none 0 0, .slice none 0 0, .int .i64 0, .bool false, .int .u8 0, .int .u8 0, .int .u8 0, .bool false, .int .u8 0, .int .u8 0, .int .u8 0, .int .u16 0, .bool false, .bool false, .int .u8 0, .int .u8 0, .int .u8 0, .int .u16 0, .bool false, .bool false, .int .u8 0] 36))
 have GL := ab.mk (show w.heap.size ≤ w3.heap.size from (ak HB2.out hb).size)
 clear hb HB2
 go_wp2_with (first
  | ((with_reducible refine az (t := 36) (p := 8) (v := .tmp 27) rfl ?_); have P_ := ab.mk (ay P.out w3.heap.size 0 GL.out [.bool false, .string ⟨#[]⟩, .int .u8 0, .int .i64 0, .bool false, .bool false, .bool false, .int .i64 0, .int .i64 0, .int .u8 0, .int .u16 0, .slice none 0 0, .slice none 0 0, .int .i64 0, .bool false, .int .u8 0, .int .u8 0, .int .u8 0, .bool false, .int .u8 0, .int .u8 0, .int .u8 0, .int .u16 0, .bool false, .bool false, .int .u8 0, .int .u8 0, .int .u8 0, .int .u16 0, .bool false, .bool false, .int .u8 0]); have BX_ := ab.mk BX.out.fill; refine wpList_store_mid rfl 36 (.tmp 8) (.tmp 27) rfl w3.heap.size 0 (List.toArray [.bool false, .string ⟨#[]⟩, .int .u8 0, .int .i64 0, .bool false, .bool false, .bool false, .int .i64 0, .int .i64 0, .int .u8 0, .int .u16 0, .slice none 0 0, .slice none 0 0, .int .i64 0, .bool false, .int .u8 0, .int .u8 0, .int .u8 0, .bool false, .int .u8 0, .int .u8 0, .int .u8 0, .int .u16 0, .bool false, .bool false, .int .u8 0, .int .u8 0, .int .u8 0, .int .u16 0, .bool false, .bool false, .int .u8 0]) rfl rfl BX.out.there (by kernel_rfl) (by simp [Value.oneCell']) ?_; clear P BX; have P := P_; have BX := BX_; clear P_ BX_; generalize World.setCells _ w3.heap.size 0 _ = W4 at P BX ⊢; simp only [Act.put, List.setIfInBounds_toArray, List.set_cons_zero, List.set_cons_succ]))
 clear hz1 hz2 hz3
 go_loopw [10, 11] (fun v i w' => ∃ (j : Nat), v = .slice none 0 0 ∧ i = .int .i64 j ∧ ab (j ≤ l1.length ∧ j ≤ 60 ∧ Below w.heap.size w w' ∧ ZAt w' w3.heap.size)) (fun v i _ => 70 - (intOf i).toNat)
 case atStart => exact ⟨0, rfl, rfl, ab.mk ⟨by omega, by omega, P.out, BX.out⟩⟩
 case round =>
  obtain ⟨j, rfl, rfl, HX⟩ := hrel
  obtain ⟨hj, hj60, hp_, hb_⟩ := HX.out
  clear HX P BX
  have HL := ab.mk HR1.out.1
  have HJ := ab.mk hj
  have HJ6 := ab.mk hj60
  have P := ab.mk hp_
  have BX := ab.mk hb_
  clear hj hj60 hp_ hb_
  by_cases hj : (j : Int) < (l1.length : Int)
  case neg =>
   go_wp2
   go_returns
   exact ⟨rfl, P.out⟩
  by_cases hk : (j : Int) < 60
  case neg =>
   go_wp2
   go_returns
   exact ⟨rfl, P.out⟩
  obtain ⟨x, hx⟩ : ∃ x, l1[j]? = some x := ⟨_, List.getElem?_eq_getElem (by omega)⟩
  obtain ⟨hxo, ad, rfl, hat0⟩ := HR1.out.2 j x hx
  have hat := hat0.below P.out
  have c0_ := hat.c0
  have c1_ := hat.c1
  have c2_ := hat.c2
  have c3_ := hat.c3
  have rel : ∀ (w' : World), Below w.heap.size w w' → ZAt w' w3.heap.size → ∃ (j_ : Nat), (Value.slice none 0 0) = .slice none 0 0 ∧ (Value.int .i64 ((j : Int) + 1)) = .int .i64 j_ ∧ ab (j_ ≤ l1.length ∧ j_ ≤ 60 ∧ Below w.heap.size w w' ∧ ZAt w' w3.heap.size) := by
   intro w' r1 r2
   exact ⟨j + 1, rfl, by simp, ab.mk ⟨by omega, by omega, r1, r2⟩⟩
  have REL := ab.mk rel
  clear rel hat hat0 hxo hx
  by_cases k1 : x.k = 1
  case pos =>
   rw [k1] at c0_
   go_wp2_with fail
   have hb := ac (Below.refl wr.heap.size wr) (.cells #[.int .i64 1, .int .u16 x.ad, .int .u8 x.v, .slice x.A x.b.length x.c] 51)
   have BA := ab.mk (aC wr (.cells #[.int .i64 1, .int .u16 x.ad, .int .u8 x.v, .slice x.A x.b.length x.c] 51))
   have P_ := ab.mk (ak P.out hb)
   have BX_ := ab.mk (BX.out.below hb)
   clear P BX hb c0_ c1_ c2_ c3_
   generalize wr.alloc (.cells #[.int .i64 1, .int .u16 x.ad, .int .u8 x.v, .slice x.A x.b.length x.c] 51) = W5 at BA P_ BX_ ⊢
   have P := P_
   have BX := BX_
   clear P_ BX_
   have HD := ab.mk (aj (Below.refl W5.heap.size W5))
   refine start_ (n := 9) (S := fun w' => w'.rangeAt w3.heap.size 0 [.bool false, .string ⟨#[]⟩, .int .u8 0, .int .i64 0, .bool false, .bool false, .bool false, .int .i64 0, .int .i64 0, .int .u8 0, .int .u16 0, .slice none 0 0, .slice none 0 0, .int .i64 0, .bool false, .int .u8 0, .int .u8 0, .int .u8 0, .bool false, .int .u8 0, .int .u8 0, .int .u8 0, .int .u16 0, .bool false, .bool false, .int .u8 0, .int .u8 0, .int .u8 0, .int .u16 0, .bool false, .bool false, .int .u8 0] ∧ w'.cell? ⟨wr.heap.size, 1, none⟩ = some (.int .u16 x.ad)) (ds := []) #[false, false, false, false, false, false, false, false, false] (by kernel_rfl) rfl rfl ⟨ZAt.range (BX.out.below HD.out), (aa (af BA.out HD.out) 1).trans rfl⟩ (fun hHeld => ?_)
   refine with_tabW plays13.tab plays13.bits (fun HT_ HW_ => ?_)
   refine bn (i := 0) (N := some 61) (v := ?_) (a' := ?_) #[true, false, false, false, false, false, false, false, false] rfl rfl (ba HT_.out (by kernel_rfl)) (fun _ _ _ h => h) (Or.inl ⟨by rfl, ?_⟩) ?_ ?_
   rotate_left
   ·intro w'
    go_simp
    with_reducible rfl
   rotate_left
   ·simp only [Act.put, List.setIfInBounds_toArray, List.set_cons_zero, List.set_cons_succ, aQ, aT]
    rfl
   refine bn (i := 1) (N := some 62) (v := ?_) (a' := ?_) #[true, true, false, false, false, false, false, false, false] rfl rfl (ba HT_.out (by kernel_rfl)) (fun _ _ _ h => h) (Or.inl ⟨by rfl, ?_⟩) ?_ ?_
   rotate_left
   ·intro w'
    go_simp
    with_reducible rfl
   rotate_left
   ·simp only [Act.put, List.setIfInBounds_toArray, List.set_cons_zero, List.set_cons_succ, aQ, aT]
    rfl
   refine bn (i := 5) (N := some 66) (v := ?_) (a' := ?_) #[true, true, false, false, false, true, false, false, false] rfl rfl (ba HT_.out (by kernel_rfl)) (fun _ _ _ h => h) (Or.inl ⟨by rfl, ?_⟩) ?_ ?_
   rotate_left
   ·intro w'
    go_simp
    with_reducible rfl
   rotate_left
   ·simp only [Act.put, List.setIfInBounds_toArray, List.set_cons_zero, List.set_cons_succ, aQ, aT]
    rfl
   refine bT (i := 2) (N := some 63) (v := ?_) (a' := ?_) #[true, true, true, false, false, true, false, false, false] rfl rfl (bg HT_.out HW_.out (by kernel_rfl)) (fun _ _ _ h => h) (Or.inl ⟨by rfl, ?_⟩) hHeld ?_ ?_
   rotate_left
   ·rintro w' ⟨s0, s1⟩
    go_simp
    with_reducible rfl
   rotate_left
   ·simp only [Act.put, List.setIfInBounds_toArray, List.set_cons_zero, List.set_cons_succ, aQ, aT]
    rfl
   refine bT (i := 4) (N := some 65) (a' := ?_) #[true, true, true, false, true, true, false, false, false] rfl rfl (bg HT_.out HW_.out (by kernel_rfl)) (fun _ _ _ h => h) (yieldsIf_load_mid (by rfl) 36 (.tmp 8) rfl w3.heap.size 0 rfl [.bool false, .string ⟨#[]⟩, .int .u8 0, .int .i64 0, .bool false, .bool false, .bool false, .int .i64 0, .int .i64 0, .int .u8 0, .int .u16 0, .slice none 0 0, .slice none 0 0, .int .i64 0, .bool false, .int .u8 0, .int .u8 0, .int .u8 0, .bool false, .int .u8 0, .int .u8 0, .int .u8 0, .int .u16 0, .bool false, .bool false, .int .u8 0, .int .u8 0, .int .u8 0, .int .u16 0, .bool false, .bool false, .int .u8 0] _ (fun w' hw' => hw'.1) rfl rfl (by kernel_rfl)) hHeld ?_ ?_
   rotate_left
   ·simp only [Act.put, List.setIfInBounds_toArray, List.set_cons_zero, List.set_cons_succ, aQ, aT]
    rfl
   refine bT (i := 6) (N := some 67) (v := ?_) (a' := ?_) #[true, true, true, false, true, true, true, false, false] rfl rfl (bg HT_.out HW_.out (by kernel_rfl)) (fun _ _ _ h => h) (Or.inl ⟨by rfl, ?_⟩) hHeld ?_ ?_
   rotate_left
   ·rintro w' ⟨s0, s1⟩
    go_simp
    with_reducible rfl
   rotate_left
   ·simp only [Act.put, List.setIfInBounds_toArray, List.set_cons_zero, List.set_cons_succ, aQ, aT]
    rfl
   refine one_ (i := 3) (N := some 64) #[true, true, true, true, true, true, true, false, false] rfl rfl (one_of HT_.out (by kernel_rfl)) (by decide) (fun K hK => ?_)
   refine goes_ Try.func13 (by kernel_rfl) rfl #[.pointer none, .int .u16 x.ad] (by rfl) rfl rfl (by (try simp only [List.map_toArray, List.map_cons, List.map_nil]); first | done | rfl) ?_
   refine (read_nil x.ad _).mono ?_
   rintro e' w6 ⟨rfl, hb⟩
   have HX := ab.mk (ak HD.out hb)
   clear hb
   refine ⟨_, rfl, ?_⟩
   refine hK.out _ _ ⟨ZAt.range (BX.out.below HX.out), (aa (af BA.out HX.out) 1).trans rfl⟩ (fun hHeld => ?_)
   clear hK K
   refine norm_ (a' := ?_) ?_ ?_
   rotate_left
   ·show Act.put _ (some 64) _ = _
    simp only [Act.put, List.setIfInBounds_toArray, List.set_cons_zero, List.set_cons_succ, aQ, aT]
    rfl
   refine one_ (i := 7) (N := some 68) #[true, true, true, true, true, true, true, true, false] rfl rfl (one_of HT_.out (by kernel_rfl)) (by decide) (fun K hK => ?_)
   refine goes_ Try.func14 (by kernel_rfl) rfl #[.agg #[.bool false, .string ⟨#[]⟩, .int .u8 0, .int .i64 0, .bool false, .bool false, .bool false, .int .i64 0, .int .i64 0, .int .u8 0, .int .u16 0, .slice none 0 0, .slice none 0 0, .int .i64 0, .bool false, .int .u8 0, .int .u8 0, .int .u8 0, .bool false, .int .u8 0, .int .u8 0, .int .u8 0, .int .u16 0, .bool false, .bool false, .int .u8 0, .int .u8 0, .int .u8 0, .int .u16 0, .bool false, .bool false, .int .u8 0], .int .u16 x.ad] (by rfl) rfl rfl (by (try simp only [List.map_toArray, List.map_cons, List.map_nil]); first | done | rfl) ?_
   refine ((rz_read x.ad).run _).mono ?_
   rintro e' w7 ⟨rfl, hb⟩
   have HY := ab.mk (ak HX.out hb)
   clear hb
   refine ⟨_, rfl, ?_⟩
   refine hK.out _ _ ⟨ZAt.range (BX.out.below HY.out), (aa (af BA.out HY.out) 1).trans rfl⟩ (fun hHeld => ?_)
   clear hK K
   refine norm_ (a' := ?_) ?_ ?_
   rotate_left
   ·show Act.put _ (some 68) _ = _
    simp only [Act.put, List.setIfInBounds_toArray, List.set_cons_zero, List.set_cons_succ, aQ, aT]
    rfl
   refine bn (i := 8) (N := some 69) (v := ?_) (a' := ?_) #[true, true, true, true, true, true, true, true, true] rfl rfl (ba HT_.out (by kernel_rfl)) (fun _ _ _ h => h) (Or.inl ⟨by rfl, ?_⟩) ?_ ?_
   rotate_left
   ·intro w'
    go_simp
    with_reducible rfl
   rotate_left
   ·simp only [Act.put, List.setIfInBounds_toArray, List.set_cons_zero, List.set_cons_succ, aQ, aT]
    rfl
   refine done_ (done_of HT_.out (by kernel_rfl)) ?_
   have P_ := ab.mk (ak P.out HY.out)
   have BX_ := ab.mk (BX.out.below HY.out)
   clear P BX
   have P := P_
   have BX := BX_
   clear P_ BX_
   go_wp2_with (first
     | ((with_reducible refine ar (N := 123) rfl ?_); refine wpList_load_mid rfl 36 (.tmp 8) rfl w3.heap.size 0 rfl _ _ BX.out.range rfl rfl (by kernel_rfl) ?_; simp only [Act.put, List.setIfInBounds_toArray, List.set_cons_zero, List.set_cons_succ]))
   refine (alike_nil.run _).mono ?_
   rintro e' wz ⟨rfl, hb⟩
   have q := ab.mk (REL.out wz (ak P.out hb) (BX.out.below hb))
   clear hb P BX REL
   go_wp2
   exact ⟨(by obtain ⟨j_, _, h1_, h2_⟩ := q.out; exact ⟨j_, rfl, h1_, h2_⟩), by simp [intOf]; omega⟩
  case neg =>
  by_cases k2 : x.k = 2
  case pos =>
   rw [k2] at c0_
   go_wp2_with fail
   have hb := ac (Below.refl wr.heap.size wr) (.cells #[.int .i64 2, .int .u16 x.ad, .int .u8 x.v, .slice x.A x.b.length x.c] 51)
   have BA := ab.mk (aC wr (.cells #[.int .i64 2, .int .u16 x.ad, .int .u8 x.v, .slice x.A x.b.length x.c] 51))
   have P_ := ab.mk (ak P.out hb)
   have BX_ := ab.mk (BX.out.below hb)
   clear P BX hb c0_ c1_ c2_ c3_
   generalize wr.alloc (.cells #[.int .i64 2, .int .u16 x.ad, .int .u8 x.v, .slice x.A x.b.length x.c] 51) = W5 at BA P_ BX_ ⊢
   have P := P_
   have BX := BX_
   clear P_ BX_
   refine (write_nil x.ad x.v _).mono ?_
   rintro e' w6 ⟨rfl, hb⟩
   have P_ := ab.mk (ak P.out hb)
   have BX_ := ab.mk (BX.out.below hb)
   have BA_ := ab.mk (af BA.out hb)
   clear P BX BA
   have P := P_
   have BX := BX_
   have BA := BA_
   clear P_ BX_ BA_
   clear hb
   have d1 : w6.cell? ⟨wr.heap.size, 1, none⟩ = some (.int .u16 x.ad) := (aa BA.out 1).trans rfl
   have d2 : w6.cell? ⟨wr.heap.size, 2, none⟩ = some (.int .u8 x.v) := (aa BA.out 2).trans rfl
   go_wp2_with ((with_reducible refine ar (N := 78) rfl ?_); refine wpList_load_mid rfl 36 (.tmp 8) rfl w3.heap.size 0 rfl _ _ BX.out.range rfl rfl (by kernel_rfl) ?_; simp only [Act.put, List.setIfInBounds_toArray, List.set_cons_zero, List.set_cons_succ])
   refine ((rz_write x.ad x.v).run _).mono ?_
   rintro e' w7 ⟨rfl, hb⟩
   clear d1 d2
   have P_ := ab.mk (ak P.out hb)
   have BX_ := ab.mk (BX.out.below hb)
   clear P BX
   have P := P_
   have BX := BX_
   clear P_ BX_
   clear hb BA
   go_wp2_with (first
     | ((with_reducible refine az (t := 36) (p := 8) (v := .tmp 83) rfl ?_); have P_ := ab.mk (ay P.out w3.heap.size 0 GL.out [.bool false, .string ⟨#[]⟩, .int .u8 0, .int .i64 0, .bool false, .bool false, .bool false, .int .i64 0, .int .i64 0, .int .u8 0, .int .u16 0, .slice none 0 0, .slice none 0 0, .int .i64 0, .bool false, .int .u8 0, .int .u8 0, .int .u8 0, .bool false, .int .u8 0, .int .u8 0, .int .u8 0, .int .u16 0, .bool false, .bool false, .int .u8 0, .int .u8 0, .int .u8 0, .int .u16 0, .bool false, .bool false, .int .u8 0]); have BX_ := ab.mk BX.out.fill; refine wpList_store_mid rfl 36 (.tmp 8) (.tmp 83) rfl w3.heap.size 0 (List.toArray [.bool false, .string ⟨#[]⟩, .int .u8 0, .int .i64 0, .bool false, .bool false, .bool false, .int .i64 0, .int .i64 0, .int .u8 0, .int .u16 0, .slice none 0 0, .slice none 0 0, .int .i64 0, .bool false, .int .u8 0, .int .u8 0, .int .u8 0, .bool false, .int .u8 0, .int .u8 0, .int .u8 0, .int .u16 0, .bool false, .bool false, .int .u8 0, .int .u8 0, .int .u8 0, .int .u16 0, .bool false, .bool false, .int .u8 0]) rfl rfl BX.out.there (by kernel_rfl) (by simp [Value.oneCell']) ?_; clear P BX; have P := P_; have BX := BX_; clear P_ BX_; generalize World.setCells _ w3.heap.size 0 _ = W9 at P BX ⊢; simp only [Act.put, List.setIfInBounds_toArray, List.set_cons_zero, List.set_cons_succ])
     | ((with_reducible refine ar (N := 123) rfl ?_); refine wpList_load_mid rfl 36 (.tmp 8) rfl w3.heap.size 0 rfl _ _ BX.out.range rfl rfl (by kernel_rfl) ?_; simp only [Act.put, List.setIfInBounds_toArray, List.set_cons_zero, List.set_cons_succ]))
   refine (alike_nil.run _).mono ?_
   rintro e' wz ⟨rfl, hb⟩
   have q := ab.mk (REL.out wz (ak P.out hb) (BX.out.below hb))
   clear hb P BX REL
   go_wp2
   exact ⟨(by obtain ⟨j_, _, h1_, h2_⟩ := q.out; exact ⟨j_, rfl, h1_, h2_⟩), by simp [intOf]; omega⟩
  case neg =>
  by_cases k3 : x.k = 3
  case pos =>
   rw [k3] at c0_
   go_wp2_with fail
   have hb := ac (Below.refl wr.heap.size wr) (.cells #[.int .i64 3, .int .u16 x.ad, .int .u8 x.v, .slice x.A x.b.length x.c] 51)
   have BA := ab.mk (aC wr (.cells #[.int .i64 3, .int .u16 x.ad, .int .u8 x.v, .slice x.A x.b.length x.c] 51))
   have P_ := ab.mk (ak P.out hb)
   have BX_ := ab.mk (BX.out.below hb)
   clear P BX hb c0_ c1_ c2_ c3_
   generalize wr.alloc (.cells #[.int .i64 3, .int .u16 x.ad, .int .u8 x.v, .slice x.A x.b.length x.c] 51) = W5 at BA P_ BX_ ⊢
   have P := P_
   have BX := BX_
   clear P_ BX_
   refine (tick_nil _).mono ?_
   rintro e' w6 ⟨rfl, hb⟩
   have P_ := ab.mk (ak P.out hb)
   have BX_ := ab.mk (BX.out.below hb)
   have BA_ := ab.mk (af BA.out hb)
   clear P BX BA
   have P := P_
   have BX := BX_
   have BA := BA_
   clear P_ BX_ BA_
   clear hb
   go_wp2_with ((with_reducible refine ar (N := 88) rfl ?_); refine wpList_load_mid rfl 36 (.tmp 8) rfl w3.heap.size 0 rfl _ _ BX.out.range rfl rfl (by kernel_rfl) ?_; simp only [Act.put, List.setIfInBounds_toArray, List.set_cons_zero, List.set_cons_succ])
   refine (rz_tick.run _).mono ?_
   rintro e' w7 ⟨rfl, hb⟩
   have P_ := ab.mk (ak P.out hb)
   have BX_ := ab.mk (BX.out.below hb)
   clear P BX
   have P := P_
   have BX := BX_
   clear P_ BX_
   clear hb BA
   go_wp2_with (first
     | ((with_reducible refine az (t := 36) (p := 8) (v := .tmp 89) rfl ?_); have P_ := ab.mk (ay P.out w3.heap.size 0 GL.out [.bool false, .string ⟨#[]⟩, .int .u8 0, .int .i64 0, .bool false, .bool false, .bool false, .int .i64 0, .int .i64 0, .int .u8 0, .int .u16 0, .slice none 0 0, .slice none 0 0, .int .i64 0, .bool false, .int .u8 0, .int .u8 0, .int .u8 0, .bool false, .int .u8 0, .int .u8 0, .int .u8 0, .int .u16 0, .bool false, .bool false, .int .u8 0, .int .u8 0, .int .u8 0, .int .u16 0, .bool false, .bool false, .int .u8 0]); have BX_ := ab.mk BX.out.fill; refine wpList_store_mid rfl 36 (.tmp 8) (.tmp 89) rfl w3.heap.size 0 (List.toArray [.bool false, .string ⟨#[]⟩, .int .u8 0, .int .i64 0, .bool false, .bool false, .bool false, .int .i64 0, .int .i64 0, .int .u8 0, .int .u16 0, .slice none 0 0, .slice none 0 0, .int .i64 0, .bool false, .int .u8 0, .int .u8 0, .int .u8 0, .bool false, .int .u8 0, .int .u8 0, .int .u8 0, .int .u16 0, .bool false, .bool false, .int .u8 0, .int .u8 0, .int .u8 0, .int .u16 0, .bool false, .bool false, .int .u8 0]) rfl rfl BX.out.there (by kernel_rfl) (by simp [Value.oneCell']) ?_; clear P BX; have P := P_; have BX := BX_; clear P_ BX_; generalize World.setCells _ w3.heap.size 0 _ = W9 at P BX ⊢; simp only [Act.put, List.setIfInBounds_toArray, List.set_cons_zero, List.set_cons_succ])
     | ((with_reducible refine ar (N := 123) rfl ?_); refine wpList_load_mid rfl 36 (.tmp 8) rfl w3.heap.size 0 rfl _ _ BX.out.range rfl rfl (by kernel_rfl) ?_; simp only [Act.put, List.setIfInBounds_toArray, List.set_cons_zero, List.set_cons_succ]))
   refine (alike_nil.run _).mono ?_
   rintro e' wz ⟨rfl, hb⟩
   have q := ab.mk (REL.out wz (ak P.out hb) (BX.out.below hb))
   clear hb P BX REL
   go_wp2
   exact ⟨(by obtain ⟨j_, _, h1_, h2_⟩ := q.out; exact ⟨j_, rfl, h1_, h2_⟩), by simp [intOf]; omega⟩
  case neg =>
  by_cases k4 : x.k = 4
  case pos =>
   rw [k4] at c0_
   go_wp2_with fail
   have hb := ac (Below.refl wr.heap.size wr) (.cells #[.int .i64 4, .int .u16 x.ad, .int .u8 x.v, .slice x.A x.b.length x.c] 51)
   have BA := ab.mk (aC wr (.cells #[.int .i64 4, .int .u16 x.ad, .int .u8 x.v, .slice x.A x.b.length x.c] 51))
   have P_ := ab.mk (ak P.out hb)
   have BX_ := ab.mk (BX.out.below hb)
   clear P BX hb c0_ c1_ c2_ c3_
   generalize wr.alloc (.cells #[.int .i64 4, .int .u16 x.ad, .int .u8 x.v, .slice x.A x.b.length x.c] 51) = W5 at BA P_ BX_ ⊢
   have P := P_
   have BX := BX_
   clear P_ BX_
   refine (save_nil _).mono ?_
   rintro e' w6 ⟨rfl, hb⟩
   have P_ := ab.mk (ak P.out hb)
   have BX_ := ab.mk (BX.out.below hb)
   clear P BX
   have P := P_
   have BX := BX_
   clear P_ BX_
   clear hb BA
   go_wp2_with fail
   have HD := ab.mk (aj (Below.refl w6.heap.size w6))
   have hcn : ∀ W : World, (convert 22 9 (.slice none 0 0)).run Try.prog W = .ok (.string ⟨#[]⟩) W := fun W => by kernel_rfl
   refine start_ (n := 6) (S := fun w' => w'.rangeAt w3.heap.size 0 [.bool false, .string ⟨#[]⟩, .int .u8 0, .int .i64 0, .bool false, .bool false, .bool false, .int .i64 0, .int .i64 0, .int .u8 0, .int .u16 0, .slice none 0 0, .slice none 0 0, .int .i64 0, .bool false, .int .u8 0, .int .u8 0, .int .u8 0, .bool false, .int .u8 0, .int .u8 0, .int .u8 0, .int .u16 0, .bool false, .bool false, .int .u8 0, .int .u8 0, .int .u8 0, .int .u16 0, .bool false, .bool false, .int .u8 0]) (ds := []) #[false, false, false, false, false, false] (by kernel_rfl) rfl rfl (ZAt.range (BX.out.below HD.out)) (fun hHeld => ?_)
   refine with_tabW plays23.tab plays23.bits (fun HT_ HW_ => ?_)
   refine bn (i := 0) (N := some 94) (v := ?_) (a' := ?_) #[true, false, false, false, false, false] rfl rfl (ba HT_.out (by kernel_rfl)) (fun _ _ _ h => h) (Or.inl ⟨by rfl, ?_⟩) ?_ ?_
   rotate_left
   ·intro w'
    go_simp
    with_reducible rfl
   rotate_left
   ·simp only [Act.put, List.setIfInBounds_toArray, List.set_cons_zero, List.set_cons_succ, aQ, aT]
    rfl
   refine bT (i := 1) (N := some 95) (v := ?_) (a' := ?_) #[true, true, false, false, false, false] rfl rfl (bg HT_.out HW_.out (by kernel_rfl)) (fun _ _ _ h => h) (Or.inl ⟨by rfl, ?_⟩) hHeld ?_ ?_
   rotate_left
   ·rintro w' s0
    go_simp
    with_reducible rfl
   rotate_left
   ·simp only [Act.put, List.setIfInBounds_toArray, List.set_cons_zero, List.set_cons_succ, aQ, aT]
    rfl
   refine bT (i := 2) (N := some 96) (a' := ?_) #[true, true, true, false, false, false] rfl rfl (bg HT_.out HW_.out (by kernel_rfl)) (fun _ _ _ h => h) (yieldsIf_load_mid (by rfl) 36 (.tmp 8) rfl w3.heap.size 0 rfl [.bool false, .string ⟨#[]⟩, .int .u8 0, .int .i64 0, .bool false, .bool false, .bool false, .int .i64 0, .int .i64 0, .int .u8 0, .int .u16 0, .slice none 0 0, .slice none 0 0, .int .i64 0, .bool false, .int .u8 0, .int .u8 0, .int .u8 0, .bool false, .int .u8 0, .int .u8 0, .int .u8 0, .int .u16 0, .bool false, .bool false, .int .u8 0, .int .u8 0, .int .u8 0, .int .u16 0, .bool false, .bool false, .int .u8 0] _ (fun w' hw' => hw') rfl rfl (by kernel_rfl)) hHeld ?_ ?_
   rotate_left
   ·simp only [Act.put, List.setIfInBounds_toArray, List.set_cons_zero, List.set_cons_succ, aQ, aT]
    rfl
   refine one_ (i := 3) (N := some 97) #[true, true, true, true, false, false] rfl rfl (one_of HT_.out (by kernel_rfl)) (by decide) (fun K hK => ?_)
   refine goes_ Try.func23 (by kernel_rfl) rfl #[.agg #[.bool false, .string ⟨#[]⟩, .int .u8 0, .int .i64 0, .bool false, .bool false, .bool false, .int .i64 0, .int .i64 0, .int .u8 0, .int .u16 0, .slice none 0 0, .slice none 0 0, .int .i64 0, .bool false, .int .u8 0, .int .u8 0, .int .u8 0, .bool false, .int .u8 0, .int .u8 0, .int .u8 0, .int .u16 0, .bool false, .bool false, .int .u8 0, .int .u8 0, .int .u8 0, .int .u16 0, .bool false, .bool false, .int .u8 0]] (by rfl) rfl rfl (by (try simp only [List.map_toArray, List.map_cons, List.map_nil]); first | done | rfl) ?_
   refine (rz_save.run _).mono ?_
   rintro e' w7 ⟨rfl, hb⟩
   have HX := ab.mk (ak HD.out hb)
   clear hb
   refine ⟨_, rfl, ?_⟩
   refine hK.out _ _ (ZAt.range (BX.out.below HX.out)) (fun hHeld => ?_)
   clear hK K
   refine norm_ (a' := ?_) ?_ ?_
   rotate_left
   ·show Act.put _ (some 97) _ = _
    simp only [Act.put, List.setIfInBounds_toArray, List.set_cons_zero, List.set_cons_succ, aQ, aT]
    rfl
   refine one_ (i := 4) (N := some 98) #[true, true, true, true, true, false] rfl rfl (one_of HT_.out (by kernel_rfl)) (by decide) (fun K hK => ?_)
   refine event_step (v := .string ⟨#[]⟩) (by rfl) (by go_simp; rfl) ?_
   refine hK.out _ _ (ZAt.range (BX.out.below HX.out)) (fun hHeld => ?_)
   clear hK K
   refine norm_ (a' := ?_) ?_ ?_
   rotate_left
   ·show Act.put _ (some 98) _ = _
    simp only [Act.put, List.setIfInBounds_toArray, List.set_cons_zero, List.set_cons_succ, aQ, aT]
    rfl
   refine bn (i := 5) (N := some 99) (v := ?_) (a' := ?_) #[true, true, true, true, true, true] rfl rfl (ba HT_.out (by kernel_rfl)) (fun _ _ _ h => h) (Or.inl ⟨by rfl, ?_⟩) ?_ ?_
   rotate_left
   ·intro w'
    go_simp
    with_reducible rfl
   rotate_left
   ·simp only [Act.put, List.setIfInBounds_toArray, List.set_cons_zero, List.set_cons_succ, aQ, aT]
    rfl
   refine done_ (done_of HT_.out (by kernel_rfl)) ?_
   clear hcn
   have P_ := ab.mk (ak P.out HX.out)
   have BX_ := ab.mk (BX.out.below HX.out)
   clear P BX
   have P := P_
   have BX := BX_
   clear P_ BX_
   go_wp2_with (first
     | ((with_reducible refine ar (N := 123) rfl ?_); refine wpList_load_mid rfl 36 (.tmp 8) rfl w3.heap.size 0 rfl _ _ BX.out.range rfl rfl (by kernel_rfl) ?_; simp only [Act.put, List.setIfInBounds_toArray, List.set_cons_zero, List.set_cons_succ]))
   refine (alike_nil.run _).mono ?_
   rintro e' wz ⟨rfl, hb⟩
   have q := ab.mk (REL.out wz (ak P.out hb) (BX.out.below hb))
   clear hb P BX REL
   go_wp2
   exact ⟨(by obtain ⟨j_, _, h1_, h2_⟩ := q.out; exact ⟨j_, rfl, h1_, h2_⟩), by simp [intOf]; omega⟩
  case neg =>
  by_cases k5 : x.k = 5
  case pos =>
   rw [k5] at c0_
   go_wp2_with fail
   have hb := ac (Below.refl wr.heap.size wr) (.cells #[.int .i64 5, .int .u16 x.ad, .int .u8 x.v, .slice x.A x.b.length x.c] 51)
   have BA := ab.mk (aC wr (.cells #[.int .i64 5, .int .u16 x.ad, .int .u8 x.v, .slice x.A x.b.length x.c] 51))
   have P_ := ab.mk (ak P.out hb)
   have BX_ := ab.mk (BX.out.below hb)
   clear P BX hb c0_ c1_ c2_ c3_
   generalize wr.alloc (.cells #[.int .i64 5, .int .u16 x.ad, .int .u8 x.v, .slice x.A x.b.length x.c] 51) = W5 at BA P_ BX_ ⊢
   have P := P_
   have BX := BX_
   clear P_ BX_
   have d0 : W5.cell? ⟨wr.heap.size, 0, none⟩ = some (.int .i64 5) := (aa BA.out 0).trans rfl
   have d3 : W5.cell? ⟨wr.heap.size, 3, none⟩ = some (.slice x.A x.b.length x.c) := (aa BA.out 3).trans rfl
   go_wp2_with fail
   refine (load_nilB _ _).mono ?_
   rintro e' w6 ⟨rfl, hb⟩
   clear d0 d3
   have P_ := ab.mk (ak P.out hb)
   have BX_ := ab.mk (BX.out.below hb)
   have BA_ := ab.mk (af BA.out hb)
   clear P BX BA
   have P := P_
   have BX := BX_
   have BA := BA_
   clear P_ BX_ BA_
   clear hb
   go_wp2_with ((with_reducible refine ar (N := 113) rfl ?_); refine wpList_load_mid rfl 36 (.tmp 8) rfl w3.heap.size 0 rfl _ _ BX.out.range rfl rfl (by kernel_rfl) ?_; simp only [Act.put, List.setIfInBounds_toArray, List.set_cons_zero, List.set_cons_succ])
   refine ((rz_load _).run _).mono ?_
   rintro e' w7 ⟨rfl, hb⟩
   have P_ := ab.mk (ak P.out hb)
   have BX_ := ab.mk (BX.out.below hb)
   clear P BX
   have P := P_
   have BX := BX_
   clear P_ BX_
   clear hb BA
   go_wp2_with (first
     | ((with_reducible refine az (t := 36) (p := 15) (v := .tmp 116) rfl ?_); have hz := ay (ac (Below.refl w7.heap.size w7) (.cells #[.bool false, .string ⟨#[]⟩, .int .u8 0, .int .i64 0, .bool false, .bool false, .bool false, .int .i64 0, .int .i64 0, .int .u8 0, .int .u16 0, .slice none 0 0, .slice none 0 0, .int .i64 0, .bool false, .int .u8 0, .int .u8 0, .int .u8 0, .bool false, .int .u8 0, .int .u8 0, .int .u8 0, .int .u16 0, .bool false, .bool false, .int .u8 0, .int .u8 0, .int .u8 0, .int .u16 0, .bool false, .bool false, .int .u8 0] 36)) w7.heap.size 0 (Nat.le_refl _) [.bool false, .string ⟨#[]⟩, .int .u8 0, .int .i64 0, .bool false, .bool false, .bool false, .int .i64 0, .int .i64 0, .int .u8 0, .int .u16 0, .slice none 0 0, .slice none 0 0, .int .i64 0, .bool false, .int .u8 0, .int .u8 0, .int .u8 0, .bool false, .int .u8 0, .int .u8 0, .int .u8 0, .int .u16 0, .bool false, .bool false, .int .u8 0, .int .u8 0, .int .u8 0, .int .u16 0, .bool false, .bool false, .int .u8 0]; have BN := ab.mk (show ZAt ((w7.alloc (.cells #[.bool false, .string ⟨#[]⟩, .int .u8 0, .int .i64 0, .bool false, .bool false, .bool false, .int .i64 0, .int .i64 0, .int .u8 0, .int .u16 0, .slice none 0 0, .slice none 0 0, .int .i64 0, .bool false, .int .u8 0, .int .u8 0, .int .u8 0, .bool false, .int .u8 0, .int .u8 0, .int .u8 0, .int .u16 0, .bool false, .bool false, .int .u8 0, .int .u8 0, .int .u8 0, .int .u16 0, .bool false, .bool false, .int .u8 0] 36)).setCells w7.heap.size 0 [.bool false, .string ⟨#[]⟩, .int .u8 0, .int .i64 0, .bool false, .bool false, .bool false, .int .i64 0, .int .i64 0, .int .u8 0, .int .u16 0, .slice none 0 0, .slice none 0 0, .int .i64 0, .bool false, .int .u8 0, .int .u8 0, .int .u8 0, .bool false, .int .u8 0, .int .u8 0, .int .u8 0, .int .u16 0, .bool false, .bool false, .int .u8 0, .int .u8 0, .int .u8 0, .int .u16 0, .bool false, .bool false, .int .u8 0]) w7.heap.size from ZAt.fill (aC w7 (.cells #[.bool false, .string ⟨#[]⟩, .int .u8 0, .int .i64 0, .bool false, .bool false, .bool false, .int .i64 0, .int .i64 0, .int .u8 0, .int .u16 0, .slice none 0 0, .slice none 0 0, .int .i64 0, .bool false, .int .u8 0, .int .u8 0, .int .u8 0, .bool false, .int .u8 0, .int .u8 0, .int .u8 0, .int .u16 0, .bool false, .bool false, .int .u8 0, .int .u8 0, .int .u8 0, .int .u16 0, .bool false, .bool false, .int .u8 0] 36))); have P_ := ab.mk (ak P.out hz); have BX_ := ab.mk (BX.out.below hz); refine wpList_store_mid rfl 36 (.tmp 15) (.tmp 116) rfl w7.heap.size 0 (List.toArray [.bool false, .string ⟨#[]⟩, .int .u8 0, .int .i64 0, .bool false, .bool false, .bool false, .int .i64 0, .int .i64 0, .int .u8 0, .int .u16 0, .slice none 0 0, .slice none 0 0, .int .i64 0, .bool false, .int .u8 0, .int .u8 0, .int .u8 0, .bool false, .int .u8 0, .int .u8 0, .int .u8 0, .int .u16 0, .bool false, .bool false, .int .u8 0, .int .u8 0, .int .u8 0, .int .u16 0, .bool false, .bool false, .int .u8 0]) rfl rfl (bo.new w7 [.bool false, .string ⟨#[]⟩, .int .u8 0, .int .i64 0, .bool false, .bool false, .bool false, .int .i64 0, .int .i64 0, .int .u8 0, .int .u16 0, .slice none 0 0, .slice none 0 0, .int .i64 0, .bool false, .int .u8 0, .int .u8 0, .int .u8 0, .bool false, .int .u8 0, .int .u8 0, .int .u8 0, .int .u16 0, .bool false, .bool false, .int .u8 0, .int .u8 0, .int .u8 0, .int .u16 0, .bool false, .bool false, .int .u8 0] rfl).there (by kernel_rfl) (by simp [Value.oneCell']) ?_; clear P BX hz; have P := P_; have BX := BX_; clear P_ BX_; generalize World.setCells _ w7.heap.size 0 _ = W8 at P BX BN ⊢; simp only [Act.put, List.setIfInBounds_toArray, List.set_cons_zero, List.set_cons_succ])
     | ((with_reducible refine ar (N := 118) rfl ?_); refine wpList_load_mid rfl 36 (.tmp 15) rfl w7.heap.size 0 rfl _ _ BN.out.range rfl rfl (by kernel_rfl) ?_; simp only [Act.put, List.setIfInBounds_toArray, List.set_cons_zero, List.set_cons_succ])
     | ((with_reducible refine az (t := 36) (p := 8) (v := .tmp 118) rfl ?_); have P_ := ab.mk (ay P.out w3.heap.size 0 GL.out [.bool false, .string ⟨#[]⟩, .int .u8 0, .int .i64 0, .bool false, .bool false, .bool false, .int .i64 0, .int .i64 0, .int .u8 0, .int .u16 0, .slice none 0 0, .slice none 0 0, .int .i64 0, .bool false, .int .u8 0, .int .u8 0, .int .u8 0, .bool false, .int .u8 0, .int .u8 0, .int .u8 0, .int .u16 0, .bool false, .bool false, .int .u8 0, .int .u8 0, .int .u8 0, .int .u16 0, .bool false, .bool false, .int .u8 0]); have BX_ := ab.mk BX.out.fill; refine wpList_store_mid rfl 36 (.tmp 8) (.tmp 118) rfl w3.heap.size 0 (List.toArray [.bool false, .string ⟨#[]⟩, .int .u8 0, .int .i64 0, .bool false, .bool false, .bool false, .int .i64 0, .int .i64 0, .int .u8 0, .int .u16 0, .slice none 0 0, .slice none 0 0, .int .i64 0, .bool false, .int .u8 0, .int .u8 0, .int .u8 0, .bool false, .int .u8 0, .int .u8 0, .int .u8 0, .int .u16 0, .bool false, .bool false, .int .u8 0, .int .u8 0, .int .u8 0, .int .u16 0, .bool false, .bool false, .int .u8 0]) rfl rfl BX.out.there (by kernel_rfl) (by simp [Value.oneCell']) ?_; clear P BX; have P := P_; have BX := BX_; clear P_ BX_; generalize World.setCells _ w3.heap.size 0 _ = W9 at P BX ⊢; simp only [Act.put, List.setIfInBounds_toArray, List.set_cons_zero, List.set_cons_succ])
     | ((with_reducible refine ar (N := 123) rfl ?_); refine wpList_load_mid rfl 36 (.tmp 8) rfl w3.heap.size 0 rfl _ _ BX.out.range rfl rfl (by kernel_rfl) ?_; simp only [Act.put, List.setIfInBounds_toArray, List.set_cons_zero, List.set_cons_succ]))
   refine (alike_nil.run _).mono ?_
   rintro e' wz ⟨rfl, hb⟩
   have q := ab.mk (REL.out wz (ak P.out hb) (BX.out.below hb))
   clear hb P BX REL
   go_wp2
   exact ⟨(by obtain ⟨j_, _, h1_, h2_⟩ := q.out; exact ⟨j_, rfl, h1_, h2_⟩), by simp [intOf]; omega⟩
  case neg =>
  by_cases k6 : x.k = 6
  case pos =>
   rw [k6] at c0_
   go_wp2_with fail
   have hb := ac (Below.refl wr.heap.size wr) (.cells #[.int .i64 6, .int .u16 x.ad, .int .u8 x.v, .slice x.A x.b.length x.c] 51)
   have BA := ab.mk (aC wr (.cells #[.int .i64 6, .int .u16 x.ad, .int .u8 x.v, .slice x.A x.b.length x.c] 51))
   have P_ := ab.mk (ak P.out hb)
   have BX_ := ab.mk (BX.out.below hb)
   clear P BX hb c0_ c1_ c2_ c3_
   generalize wr.alloc (.cells #[.int .i64 6, .int .u16 x.ad, .int .u8 x.v, .slice x.A x.b.length x.c] 51) = W5 at BA P_ BX_ ⊢
   have P := P_
   have BX := BX_
   clear P_ BX_
   have d0 : W5.cell? ⟨wr.heap.size, 0, none⟩ = some (.int .i64 6) := (aa BA.out 0).trans rfl
   have d3 : W5.cell? ⟨wr.heap.size, 3, none⟩ = some (.slice x.A x.b.length x.c) := (aa BA.out 3).trans rfl
   go_wp2_with fail
   refine (load_nilB _ _).mono ?_
   rintro e' w6 ⟨rfl, hb⟩
   clear d0 d3
   have P_ := ab.mk (ak P.out hb)
   have BX_ := ab.mk (BX.out.below hb)
   have BA_ := ab.mk (af BA.out hb)
   clear P BX BA
   have P := P_
   have BX := BX_
   have BA := BA_
   clear P_ BX_ BA_
   clear hb
   go_wp2_with ((with_reducible refine ar (N := 113) rfl ?_); refine wpList_load_mid rfl 36 (.tmp 8) rfl w3.heap.size 0 rfl _ _ BX.out.range rfl rfl (by kernel_rfl) ?_; simp only [Act.put, List.setIfInBounds_toArray, List.set_cons_zero, List.set_cons_succ])
   refine ((rz_load _).run _).mono ?_
   rintro e' w7 ⟨rfl, hb⟩
   have P_ := ab.mk (ak P.out hb)
   have BX_ := ab.mk (BX.out.below hb)
   clear P BX
   have P := P_
   have BX := BX_
   clear P_ BX_
   clear hb BA
   go_wp2_with (first
     | ((with_reducible refine az (t := 36) (p := 15) (v := .tmp 116) rfl ?_); have hz := ay (ac (Below.refl w7.heap.size w7) (.cells #[.bool false, .string ⟨#[]⟩, .int .u8 0, .int .i64 0, .bool false, .bool false, .bool false, .int .i64 0, .int .i64 0, .int .u8 0, .int .u16 0, .slice none 0 0, .slice none 0 0, .int .i64 0, .bool false, .int .u8 0, .int .u8 0, .int .u8 0, .bool false, .int .u8 0, .int .u8 0, .int .u8 0, .int .u16 0, .bool false, .bool false, .int .u8 0, .int .u8 0, .int .u8 0, .int .u16 0, .bool false, .bool false, .int .u8 0] 36)) w7.heap.size 0 (Nat.le_refl _) [.bool false, .string ⟨#[]⟩, .int .u8 0, .int .i64 0, .bool false, .bool false, .bool false, .int .i64 0, .int .i64 0, .int .u8 0, .int .u16 0, .slice none 0 0, .slice none 0 0, .int .i64 0, .bool false, .int .u8 0, .int .u8 0, .int .u8 0, .bool false, .int .u8 0, .int .u8 0, .int .u8 0, .int .u16 0, .bool false, .bool false, .int .u8 0, .int .u8 0, .int .u8 0, .int .u16 0, .bool false, .bool false, .int .u8 0]; have BN := ab.mk (show ZAt ((w7.alloc (.cells #[.bool false, .string ⟨#[]⟩, .int .u8 0, .int .i64 0, .bool false, .bool false, .bool false, .int .i64 0, .int .i64 0, .int .u8 0, .int .u16 0, .slice none 0 0, .slice none 0 0, .int .i64 0, .bool false, .int .u8 0, .int .u8 0, .int .u8 0, .bool false, .int .u8 0, .int .u8 0, .int .u8 0, .int .u16 0, .bool false, .bool false, .int .u8 0, .int .u8 0, .int .u8 0, .int .u16 0, .bool false, .bool false, .int .u8 0] 36)).setCells w7.heap.size 0 [.bool false, .string ⟨#[]⟩, .int .u8 0, .int .i64 0, .bool false, .bool false, .bool false, .int .i64 0, .int .i64 0, .int .u8 0, .int .u16 0, .slice none 0 0, .slice none 0 0, .int .i64 0, .bool false, .int .u8 0, .int .u8 0, .int .u8 0, .bool false, .int .u8 0, .int .u8 0, .int .u8 0, .int .u16 0, .bool false, .bool false, .int .u8 0, .int .u8 0, .int .u8 0, .int .u16 0, .bool false, .bool false, .int .u8 0]) w7.heap.size from ZAt.fill (aC w7 (.cells #[.bool false, .string ⟨#[]⟩, .int .u8 0, .int .i64 0, .bool false, .bool false, .bool false, .int .i64 0, .int .i64 0, .int .u8 0, .int .u16 0, .slice none 0 0, .slice none 0 0, .int .i64 0, .bool false, .int .u8 0, .int .u8 0, .int .u8 0, .bool false, .int .u8 0, .int .u8 0, .int .u8 0, .int .u16 0, .bool false, .bool false, .int .u8 0, .int .u8 0, .int .u8 0, .int .u16 0, .bool false, .bool false, .int .u8 0] 36))); have P_ := ab.mk (ak P.out hz); have BX_ := ab.mk (BX.out.below hz); refine wpList_store_mid rfl 36 (.tmp 15) (.tmp 116) rfl w7.heap.size 0 (List.toArray [.bool false, .string ⟨#[]⟩, .int .u8 0, .int .i64 0, .bool false, .bool false, .bool false, .int .i64 0, .int .i64 0, .int .u8 0, .int .u16 0, .slice none 0 0, .slice none 0 0, .int .i64 0, .bool false, .int .u8 0, .int .u8 0, .int .u8 0, .bool false, .int .u8 0, .int .u8 0, .int .u8 0, .int .u16 0, .bool false, .bool false, .int .u8 0, .int .u8 0, .int .u8 0, .int .u16 0, .bool false, .bool false, .int .u8 0]) rfl rfl (bo.new w7 [.bool false, .string ⟨#[]⟩, .int .u8 0, .int .i64 0, .bool false, .bool false, .bool false, .int .i64 0, .int .i64 0, .int .u8 0, .int .u16 0, .slice none 0 0, .slice none 0 0, .int .i64 0, .bool false, .int .u8 0, .int .u8 0, .int .u8 0, .bool false, .int .u8 0, .int .u8 0, .int .u8 0, .int .u16 0, .bool false, .bool false, .int .u8 0, .int .u8 0, .int .u8 0, .int .u16 0, .bool false, .bool false, .int .u8 0] rfl).there (by kernel_rfl) (by simp [Value.oneCell']) ?_; clear P BX hz; have P := P_; have BX := BX_; clear P_ BX_; generalize World.setCells _ w7.heap.size 0 _ = W8 at P BX BN ⊢; simp only [Act.put, List.setIfInBounds_toArray, List.set_cons_zero, List.set_cons_succ])
     | ((with_reducible refine ar (N := 118) rfl ?_); refine wpList_load_mid rfl 36 (.tmp 15) rfl w7.heap.size 0 rfl _ _ BN.out.range rfl rfl (by kernel_rfl) ?_; simp only [Act.put, List.setIfInBounds_toArray, List.set_cons_zero, List.set_cons_succ])
     | ((with_reducible refine az (t := 36) (p := 8) (v := .tmp 118) rfl ?_); have P_ := ab.mk (ay P.out w3.heap.size 0 GL.out [.bool false, .string ⟨#[]⟩, .int .u8 0, .int .i64 0, .bool false, .bool false, .bool false, .int .i64 0, .int .i64 0, .int .u8 0, .int .u16 0, .slice none 0 0, .slice none 0 0, .int .i64 0, .bool false, .int .u8 0, .int .u8 0, .int .u8 0, .bool false, .int .u8 0, .int .u8 0, .int .u8 0, .int .u16 0, .bool false, .bool false, .int .u8 0, .int .u8 0, .int .u8 0, .int .u16 0, .bool false, .bool false, .int .u8 0]); have BX_ := ab.mk BX.out.fill; refine wpList_store_mid rfl 36 (.tmp 8) (.tmp 118) rfl w3.heap.size 0 (List.toArray [.bool false, .string ⟨#[]⟩, .int .u8 0, .int .i64 0, .bool false, .bool false, .bool false, .int .i64 0, .int .i64 0, .int .u8 0, .int .u16 0, .slice none 0 0, .slice none 0 0, .int .i64 0, .bool false, .int .u8 0, .int .u8 0, .int .u8 0, .bool false, .int .u8 0, .int .u8 0, .int .u8 0, .int .u16 0, .bool false, .bool false, .int .u8 0, .int .u8 0, .int .u8 0, .int .u16 0, .bool false, .bool false, .int .u8 0]) rfl rfl BX.out.there (by kernel_rfl) (by simp [Value.oneCell']) ?_; clear P BX; have P := P_; have BX := BX_; clear P_ BX_; generalize World.setCells _ w3.heap.size 0 _ = W9 at P BX ⊢; simp only [Act.put, List.setIfInBounds_toArray, List.set_cons_zero, List.set_cons_succ])
     | ((with_reducible refine ar (N := 123) rfl ?_); refine wpList_load_mid rfl 36 (.tmp 8) rfl w3.heap.size 0 rfl _ _ BX.out.range rfl rfl (by kernel_rfl) ?_; simp only [Act.put, List.setIfInBounds_toArray, List.set_cons_zero, List.set_cons_succ]))
   refine (alike_nil.run _).mono ?_
   rintro e' wz ⟨rfl, hb⟩
   have q := ab.mk (REL.out wz (ak P.out hb) (BX.out.below hb))
   clear hb P BX REL
   go_wp2
   exact ⟨(by obtain ⟨j_, _, h1_, h2_⟩ := q.out; exact ⟨j_, rfl, h1_, h2_⟩), by simp [intOf]; omega⟩
  case neg =>
   have b1 : (x.k == 1) = false := beq_eq_false_iff_ne.mpr k1
   have b2 : (x.k == 2) = false := beq_eq_false_iff_ne.mpr k2
   have b3 : (x.k == 3) = false := beq_eq_false_iff_ne.mpr k3
   have b4 : (x.k == 4) = false := beq_eq_false_iff_ne.mpr k4
   have b5 : (x.k == 5) = false := beq_eq_false_iff_ne.mpr k5
   have b6 : (x.k == 6) = false := beq_eq_false_iff_ne.mpr k6
   clear k1 k2 k3 k4 k5 k6
   have hb := ac (Below.refl wr.heap.size wr) (.cells #[.int .i64 x.k, .int .u16 x.ad, .int .u8 x.v, .slice x.A x.b.length x.c] 51)
   have P_ := ab.mk (ak P.out hb)
   have BX_ := ab.mk (BX.out.below hb)
   clear P BX hb
   have P := P_
   have BX := BX_
   clear P_ BX_
   go_wp2_with (first
     | ((with_reducible refine ar (N := 123) rfl ?_); refine wpList_load_mid rfl 36 (.tmp 8) rfl w3.heap.size 0 rfl _ _ BX.out.range rfl rfl (by kernel_rfl) ?_; simp only [Act.put, List.setIfInBounds_toArray, List.set_cons_zero, List.set_cons_succ]))
   refine (alike_nil.run _).mono ?_
   rintro e' wz ⟨rfl, hb⟩
   have q := ab.mk (REL.out wz (ak P.out hb) (BX.out.below hb))
   clear hb P BX REL
   go_wp2
   exact ⟨(by obtain ⟨j_, _, h1_, h2_⟩ := q.out; exact ⟨j_, rfl, h1_, h2_⟩), by simp [intOf]; omega⟩
theorem whirligiglaw10_CartPlays.direct (A0 : Option Addr) (c0 : Nat) (l0 : List Int) (A1 : Option Addr) (c1 : Nat) (l1 : List Act1) (w : World) (hr0 : Kd.C (Kd.int .u8) w A0 l0.length l0) (hc0 : l0.length ≤ c0) (hr1 : ActsAt w A1 l1) (hc1 : l1.length ≤ c1) (w0 : l0.length ≤ 9223372036854775807) (y0 : ∀ x ∈ l0, 0 ≤ x ∧ x ≤ 255) (w1 : l1.length ≤ 9223372036854775807) (y1 : True) :
  Calls Try.prog 5 #[.slice A0 l0.length c0, .slice A1 l1.length c1] w fun e w' => e = .returned (.bool true) ∧ Below w.heap.size w w' := by
 by_cases he : headE l0 = 0
 ·exact plays_ok A0 c0 l0 A1 c1 l1 w hr0 hc0 y0 hr1 hc1 he
 ·exact plays_no A0 c0 l0 A1 c1 l1 w hr0 hc0 y0 hr1 hc1 he
end Go.Proofs.Ytmjjojbedllmgaa.Hand
end
namespace Go.Proofs.Ytmjjojbedllmgaa.cartPlays
open Go.ChangeShapes Go.WideShapes Go.ChangeAt
open Go.ChangeMaps (open_string shut_string)
theorem own : ownKnob Try.prog.godebug = none := by kernel_rfl
theorem laidOut : laidOutB Try.prog = true := by kernel_rfl
theorem lifted (os : Os) (started : os.Started) (H : Type) (enc : TypeId × Value → H) :
  ReturnsInHanded {} Try.checked os 5 .any (Rows.cartPlaysSpec.pre6 enc Try.prog Try.f5 Rows.cartPlaysRow.domain false) (Rows.cartPlaysSpec.post enc Try.prog Try.f5 false true false false) := by
 refine Frame.lifted_of (C := Try.checked) (bt := 4) own started (by kernel_rfl) Try.func5
  (ChangeSpec.witness6 (enc := enc) (C := Try.checked) false ⟨#[], #[.slice none 0 0, .slice none 0 0], []⟩ 8 (by kernel_rfl) (by kernel_rfl) (by kernel_rfl) (by kernel_rfl)) rfl rfl Try.underlying4 ?_ laidOut (by kernel_rfl) ?_
 ·intro ds h
  have h' : ds.length = 2 := h
  match ds, h' with
  | [d0, d1], _ => rfl
 ·intro W base vs ds p hval0 hA0 hsz0
  have hval : ∀ (j : Nat) (t : TypeId) (v : Value), Try.f5.params.toList[j]? = some t → vs[j]? = some v → Value.okWide Try.prog W .any base t v := hval0
  have hA : DataW.TrodAll enc Try.prog W 0 (fun _ => true) true Try.f5.params.toList vs ds p := hA0
  have hsz : (DataW.weightsEach Try.prog Try.f5.params.toList ds).all (· ≤ reachBytes) = true := hsz0
  rw [Try.params5] at hA hval hsz
  clear hval0 hA0 hsz0
  obtain ⟨v0, vs0, d0, ds0, p0, q0, rfl, rfl, rfl, h0, r0⟩ := trodAll_cons hA
  obtain ⟨v1, vs1, d1, ds1, p1, q1, rfl, rfl, rfl, h1, r1⟩ := trodAll_cons r0
  obtain ⟨rfl, rfl, rfl⟩ := trodAll_nil r1
  obtain ⟨A0, l0, c0, rfl, hr0, hc0, w0, y0⟩ := Pairs.open_bytes (okWide_slice Try.underlying22 (hval 0 22 v0 rfl rfl)) h0
  obtain ⟨A1, l1, c1, rfl, hr1, hc1, w1, y1⟩ := ActsRow.open_wrote (okWide_slice Try.underlying44 (hval 1 44 v1 rfl rfl)) h1
  exact (Hand.whirligiglaw10_CartPlays.direct A0 c0 l0 A1 c1 l1 W hr0 hc0 hr1 hc1 w0 y0 w1 y1).mono fun e w' ⟨he, hb⟩ => ⟨he, hb⟩
theorem over : Rows.cartPlaysRow.holds Try.pinned (OpenSpec.ofChange Rows.cartPlaysSpec) :=
 OpenClaim.holds_of_wide 5 Try.f5 rfl rfl rfl rfl rfl rfl rfl ⟨rfl, rfl, rfl, rfl, rfl⟩ rfl rfl rfl rfl rfl (by kernel_rfl) Try.func5 (by kernel_rfl)
  (of_decide_eq_true (by kernel_rfl)) (by unfold Func.isWrapper; first | (rw [if_pos (by decide +kernel)]; kernel_rfl) | (rw [if_neg (by decide +kernel)]; exact ⟨rfl, rfl⟩))
  (fun os started H enc _ => lifted os started H enc)
theorem proved : Rows.CartPlaysSaid := over
end Go.Proofs.Ytmjjojbedllmgaa.cartPlays
namespace Go.Proofs.Ytmjjojbedllmgaa
theorem cartPlays_holds : Rows.CartPlaysSaid := cartPlays.proved
end Go.Proofs.Ytmjjojbedllmgaa
