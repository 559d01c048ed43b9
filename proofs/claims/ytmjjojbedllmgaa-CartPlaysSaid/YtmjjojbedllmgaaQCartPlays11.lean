/- What the proof of the statement CartPlays stands on, part 11. (Packed by pack.py out of this session's texts.) -/
import Derived.Handy
import Derived.Test.YtmjjojbedllmgaaQCartPlays2
import Derived.Test.YtmjjojbedllmgaaQCartPlays6
import Derived.Test.YtmjjojbedllmgaaQCartPlays7
import Derived.Test.YtmjjojbedllmgaaQCartPlays8
import Derived.Test.YtmjjojbedllmgaaQCartPlays9
import Derived.Test.YtmjjojbedllmgaaQCartPlays10
set_option linter.unusedVariables false
set_option linter.unusedSimpArgs false
set_option maxRecDepth 100000
set_option maxHeartbeats 20000000
open Go.RowKit Go.Proofs.YtmjjojbedllmgaaW.PrintWords Go.Proofs.YtmjjojbedllmgaaW.PrintLast Go.Proofs.YtmjjojbedllmgaaW.PrintMore Go.Proofs.Ytmjjojbedllmgaa.G
namespace Go.Proofs.Ytmjjojbedllmgaa.Hand
theorem Held.base {w : World} {B B0 : Nat} {A : Option Addr} {c : Nat} {l : List Int} (h : Held w B A c l) (hb : B0 ≤ B) : Held w B0 A c l := by
 obtain ⟨h1, h2, h3⟩ := h
 refine ⟨h1, h2, ?_⟩
 rcases h3 with h3 | ⟨g, e, hg, hx⟩
 ·exact Or.inl h3
 ·exact Or.inr ⟨g, e, Nat.le_trans hb hg, hx⟩
theorem Held.setOne {w : World} {B : Nat} {A : Option Addr} {c : Nat} {l : List Int} (h : Held w B A c l) (g i : Nat) (v : Value) (hg : g < B) : Held (w.setCell ⟨g, i, none⟩ v) B A c l :=
 h.upto (S := fun k => k = g) (Upto.setB (Upto.refl _ _) i v) (fun k e => by omega)
theorem Held.setAll {w : World} {B : Nat} {A : Option Addr} {c : Nat} {l : List Int} (h : Held w B A c l) (g o : Nat) (vs : List Value) (hg : g < B) : Held (w.setCells g o vs) B A c l :=
 h.upto (cB w g o vs) (fun k e => by omega)
theorem rload_ok1 (s : Ct) (Ai : Option Addr) (ci : Nat) (Ar : Option Addr) (cr : Nat) (ad : Addr) (c : Nat) (l : List Int) (L : List Int) (hbt : s.hdr.bt = true) (hck : s.hdr.ck = false) (hq : ((l.length : Int) == (L.length : Int)) = true) (hln : s.ram.length ≤ 1048576) (hn : l.length = s.ram.length) (hc : l.length ≤ c) (w : World) (hr : Kd.C (Kd.int .u8) w (some ad) l.length l) (hs : ∀ w1 : World, Below w.heap.size w w1 → Calls Try.prog 23 #[(⟨s, Ai, ci, Ar, cr⟩ : Rt).v] w1 fun e w' => ∃ v0 : Value, e = .returned v0 ∧ Kd.R (Kd.int .u8) 5 w' w1.heap.size (fun _ => True) v0 L ∧ Below w1.heap.size w1 w') :
  Calls Try.prog 25 #[(⟨s, Ai, ci, Ar, cr⟩ : Rt).v, .slice (some ad) l.length c] w fun e w' => ∃ Ag cg, e = .returned (.tuple #[(⟨{ s with ram := l }, Ai, ci, Ag, cg⟩ : Rt).v, .int .i64 0]) ∧ Held w' w.heap.size Ag cg l ∧ Below w.heap.size w w' := by
 have H5 := ab.mk hbt
 clear hbt
 have HS := ab.mk hs
 clear hs
 have H6 := ab.mk hck
 have HLn := ab.mk hln
 have HT : ab (Kd.C (Kd.int .u8) w (some ad) s.ram.length l) := ab.mk (by rw [← hn]; exact hr)
 have hs0 : (0 : Int) ≤ (s.ram.length : Int) := by omega
 have hs1 : (s.ram.length : Int) ≤ (l.length : Int) := by omega
 have hs2 : (l.length : Int) ≤ (c : Int) := by omega
 have hs3 : (s.ram.length : Int) ≤ (c : Int) := by omega
 have HN := ab.mk hn
 clear hck hln hr hc hn
 have BX0 := ab.mk (ao.alloc (ao.new w (⟨s, Ai, ci, Ar, cr⟩ : Rt)) (.cells [.bool false, .string ⟨#[]⟩, .int .u8 0, .int .i64 0, .bool false, .bool false, .bool false, .int .i64 0, .int .i64 0, .int .u8 0, .int .u16 0, .slice none 0 0, .slice none 0 0, .int .i64 0, .bool false, .int .u8 0, .int .u8 0, .int .u8 0, .bool false, .int .u8 0, .int .u8 0, .int .u8 0, .int .u16 0, .bool false, .bool false, .int .u8 0, .int .u8 0, .int .u8 0, .int .u16 0, .bool false, .bool false, .int .u8 0].toArray 36))
 have BZ0 := ab.mk (bF w (.cells (⟨s, Ai, ci, Ar, cr⟩ : Rt).cells.toArray 36) [.bool false, .string ⟨#[]⟩, .int .u8 0, .int .i64 0, .bool false, .bool false, .bool false, .int .i64 0, .int .i64 0, .int .u8 0, .int .u16 0, .slice none 0 0, .slice none 0 0, .int .i64 0, .bool false, .int .u8 0, .int .u8 0, .int .u8 0, .bool false, .int .u8 0, .int .u8 0, .int .u8 0, .int .u16 0, .bool false, .bool false, .int .u8 0, .int .u8 0, .int .u8 0, .int .u16 0, .bool false, .bool false, .int .u8 0] rfl)
 have HB0 := ab.mk (ac (ac (Below.refl w.heap.size w) (.cells (⟨s, Ai, ci, Ar, cr⟩ : Rt).cells.toArray 36)) (.cells [.bool false, .string ⟨#[]⟩, .int .u8 0, .int .i64 0, .bool false, .bool false, .bool false, .int .i64 0, .int .i64 0, .int .u8 0, .int .u16 0, .slice none 0 0, .slice none 0 0, .int .i64 0, .bool false, .int .u8 0, .int .u8 0, .int .u8 0, .bool false, .int .u8 0, .int .u8 0, .int .u8 0, .int .u16 0, .bool false, .bool false, .int .u8 0, .int .u8 0, .int .u8 0, .int .u16 0, .bool false, .bool false, .int .u8 0].toArray 36))
 go_enter Try.func25, Try.ntmps25
 go_wp2_with (first
  | ((with_reducible refine ar (N := 11) rfl ?_); have BX := BX0; have BZ := BZ0; have HB := HB0; clear BX0 BZ0 HB0; generalize (w.alloc (.cells #[.bool true, .string s.hdr.t, .int .u8 s.hdr.kd, .int .i64 s.hdr.mp, .bool s.hdr.rm, .bool s.hdr.bt, .bool s.hdr.ck, .int .i64 s.hdr.bk, .int .i64 s.hdr.sz, .int .u8 s.hdr.sm, .int .u16 s.hdr.wh, .slice Ai s.img.length ci, .slice Ar s.ram.length cr, .int .i64 s.mp.k, .bool s.mp.o, .int .u8 s.mp.l, .int .u8 s.mp.h, .int .u8 s.mp.r, .bool s.mp.md, .int .u8 s.lv.s, .int .u8 s.lv.m, .int .u8 s.lv.h, .int .u16 s.lv.d, .bool s.lv.ht, .bool s.lv.cy, .int .u8 s.hd.s, .int .u8 s.hd.m, .int .u8 s.hd.h, .int .u16 s.hd.d, .bool s.hd.ht, .bool s.hd.cy, .int .u8 s.last] 36)).alloc (.cells #[.bool false, .string ⟨#[]⟩, .int .u8 0, .int .i64 0, .bool false, .bool false, .bool false, .int .i64 0, .int .i64 0, .int .u8 0, .int .u16 0, .slice none 0 0, .slice none 0 0, .int .i64 0, .bool false, .int .u8 0, .int .u8 0, .int .u8 0, .bool false, .int .u8 0, .int .u8 0, .int .u8 0, .int .u16 0, .bool false, .bool false, .int .u8 0, .int .u8 0, .int .u8 0, .int .u16 0, .bool false, .bool false, .int .u8 0] 36) = W at BX BZ HB ⊢; have c0 : W.cell? ⟨w.heap.size, 0, none⟩ = some (.bool true) := ao.c0 BX.out; have c5 : W.cell? ⟨w.heap.size, 5, none⟩ = some (.bool true) := (ao.c5 BX.out).trans (by rw [H5.out]))
  | ((with_reducible refine ar (N := 21) rfl ?_); refine wpList_load_mid rfl 36 (.tmp 2) rfl w.heap.size 0 rfl _ _ (ao.range BX.out) rfl rfl (by kernel_rfl) ?_; simp only [Act.put, List.setIfInBounds_toArray, List.set_cons_zero, List.set_cons_succ]))
 refine (HS.out _ HB.out).mono ?_
 rintro e' w1 ⟨v0, rfl, hr, hb⟩
 obtain ⟨A2, cc2, rfl, hcc2, hC2⟩ := Kd.R_reads hr
 clear hr hC2 c0 c5 HS
 have b_ := ab.mk (BX.out.below hb)
 have z_ := ab.mk (BZ.out.below hb)
 have h_ := ab.mk (ak HB.out hb)
 clear BX BZ HB hb
 have BX := b_
 have BZ := z_
 have HB := h_
 clear b_ z_ h_
 have N2 := ab.mk BZ.out.lt
 have c12 : w1.cell? ⟨w.heap.size, 12, none⟩ = some (.slice Ar s.ram.length cr) := BX.out.c12
 have c6 : w1.cell? ⟨w.heap.size, 6, none⟩ = some (.bool false) := (ao.c6 BX.out).trans (by rw [H6.out])
 go_wp2_with (first
  | ((with_reducible refine ar (N := 51) rfl ?_); refine Kd.R_lit (Kd.int .u8) (w0 := w1) w1.heap.size 5 ?hg (N := 51) ?hd (xs := ([] : List Int)) (inner := []) (ok := fun _ => True) (okp := fun _ => True) ?hr ?hp (fun _ hk => hk) trivial (Below.refl _ _) (Nat.le_refl _) (by simp) ?_; (case hd => rfl); (case hg => rfl); (case hr => first | (go_simp; done) | (go_simp; rfl)); (case hp => exact (Reps.none _ _)); intro v5 w5 ho hb5 hg_ hnew_; clear hg_ hnew_; have HO := ab.mk ho; have HB5 := ab.mk hb5; have b_ := ab.mk (BX.out.below hb5); have h_ := ab.mk (ak HB.out hb5); clear ho hb5)
  | ((with_reducible refine bJ (b := .append) (xs := #[.tmp 51, .tmp 54]) rfl ?_); at_builtin; refine Kd.R_append_rows (Kd.int .u8) (w0 := w1) w1.heap.size rfl (.tmp 51) (.tmp 54) 22 5 (.int .u8 0) 1 rfl Try.underlying22 info5 rfl (by decide) (by omega) v5 [] l _ _ _ (fun _ => True) (fun _ => False) rfl rfl HO.out ?aR (fun _ _ h => h) (fun _ h => h.elim) (fun _ _ => trivial) HB5.out (aw HB5.out) ?aL ?_; (case aR => exact Kd.C_below HT.out h_.out); (case aL => have := HLn.out; have := HN.out; simp; omega); intro v6 w6 ho hb6 hg hat_; clear hg hat_; rw [List.nil_append] at ho; obtain ⟨Ag, cg, rfl, hH⟩ := held_of_R ho; have HH6 := ab.mk hH; have b6 := ab.mk (BX.out.below hb6); have z6 := ab.mk (BZ.out.below hb6); have h6 := ab.mk (ak HB.out hb6); clear ho hb6 hH BX BZ HB b_ h_ HO HB5; have BX := b6; have BZ := z6; have HB := h6; clear b6 z6 h6; have c12 : w6.cell? ⟨w.heap.size, 12, none⟩ = some (.slice Ar s.ram.length cr) := ao.c12 BX.out; have fz12 : w6.frozen? ⟨w.heap.size, 12, none⟩ = false := ao.frozen BX.out 12)
  | ((with_reducible refine ar (N := 57) rfl ?_); have b_ := ab.mk (BX.out.row Ag cg (l)); have z_ := ab.mk (BZ.out.far1 (g := w.heap.size) (by omega) 12 (.slice Ag (l).length cg)); have h_ := ab.mk (show Below w.heap.size w (World.setCell w6 ⟨w.heap.size, 12, none⟩ (.slice Ag (l).length cg)) from ag HB.out (Nat.le_refl _)); have k_ := ab.mk (HH6.out.setOne w.heap.size 12 (.slice Ag (l).length cg) (by have := N2.out; omega)); clear BX BZ HB HH6 c12 fz12; have BX := b_; have BZ := z_; have HB := h_; have HH6 := k_; clear b_ z_ h_ k_; generalize World.setCell w6 _ _ = W7 at BX BZ HB HH6 ⊢; refine wpList_load_mid rfl 36 (.tmp 2) rfl w.heap.size 0 rfl _ _ (ao.range BX.out) rfl rfl (by kernel_rfl) ?_; simp only [Act.put, List.setIfInBounds_toArray, List.set_cons_zero, List.set_cons_succ])
  | ((with_reducible refine az (t := 36) (p := 4) (v := .tmp 57) rfl ?_); have k6 := ab.mk (HH6.out.setAll (w.heap.size + 1) 0 (⟨{ s with ram := l }, Ai, ci, Ag, cg⟩ : Rt).cells (by have := N2.out; omega)); have y0 := ab.mk (BZ.out.fill (⟨{ s with ram := l }, Ai, ci, Ag, cg⟩ : Rt)); have y1 := ab.mk (ay HB.out (w.heap.size + 1) 0 (by omega) (⟨{ s with ram := l }, Ai, ci, Ag, cg⟩ : Rt).cells); refine wpList_store_mid rfl 36 (.tmp 4) (.tmp 57) rfl (w.heap.size + 1) 0 _ rfl rfl BZ.out.there (by kernel_rfl) (Rt.one _) ?_; generalize World.setCells _ (w.heap.size + 1) 0 _ = Y at y0 y1 k6 ⊢; simp only [Act.put, List.setIfInBounds_toArray, List.set_cons_zero, List.set_cons_succ]))
 refine bodyPost_ret (bq rfl _ _ _ _ _ _ _ rfl y0.out rfl rfl (by kernel_rfl)) rfl ⟨Ag, cg, rfl, k6.out.base (by have := N2.out; omega), y1.out⟩
theorem rload_ok1n (s : Ct) (Ai : Option Addr) (ci : Nat) (Ar : Option Addr) (cr : Nat)  (c : Nat) (l : List Int) (L : List Int) (hbt : s.hdr.bt = true) (hck : s.hdr.ck = false) (hq : ((l.length : Int) == (L.length : Int)) = true) (hln : s.ram.length ≤ 1048576) (hn : l.length = s.ram.length) (hc : l.length ≤ c) (w : World) (hr : Kd.C (Kd.int .u8) w none l.length l) (hs : ∀ w1 : World, Below w.heap.size w w1 → Calls Try.prog 23 #[(⟨s, Ai, ci, Ar, cr⟩ : Rt).v] w1 fun e w' => ∃ v0 : Value, e = .returned v0 ∧ Kd.R (Kd.int .u8) 5 w' w1.heap.size (fun _ => True) v0 L ∧ Below w1.heap.size w1 w') :
  Calls Try.prog 25 #[(⟨s, Ai, ci, Ar, cr⟩ : Rt).v, .slice none l.length c] w fun e w' => ∃ Ag cg, e = .returned (.tuple #[(⟨{ s with ram := l }, Ai, ci, Ag, cg⟩ : Rt).v, .int .i64 0]) ∧ Held w' w.heap.size Ag cg l ∧ Below w.heap.size w w' := by
 have H5 := ab.mk hbt
 clear hbt
 have HS := ab.mk hs
 clear hs
 have H6 := ab.mk hck
 have HLn := ab.mk hln
 have HT : ab (Kd.C (Kd.int .u8) w none s.ram.length l) := ab.mk (by rw [← hn]; exact hr)
 have hs0 : (0 : Int) ≤ (s.ram.length : Int) := by omega
 have hs1 : (s.ram.length : Int) ≤ (l.length : Int) := by omega
 have hs2 : (l.length : Int) ≤ (c : Int) := by omega
 have hs3 : (s.ram.length : Int) ≤ (c : Int) := by omega
 have HN := ab.mk hn
 clear hck hln hr hc hn
 have BX0 := ab.mk (ao.alloc (ao.new w (⟨s, Ai, ci, Ar, cr⟩ : Rt)) (.cells [.bool false, .string ⟨#[]⟩, .int .u8 0, .int .i64 0, .bool false, .bool false, .bool false, .int .i64 0, .int .i64 0, .int .u8 0, .int .u16 0, .slice none 0 0, .slice none 0 0, .int .i64 0, .bool false, .int .u8 0, .int .u8 0, .int .u8 0, .bool false, .int .u8 0, .int .u8 0, .int .u8 0, .int .u16 0, .bool false, .bool false, .int .u8 0, .int .u8 0, .int .u8 0, .int .u16 0, .bool false, .bool false, .int .u8 0].toArray 36))
 have BZ0 := ab.mk (bF w (.cells (⟨s, Ai, ci, Ar, cr⟩ : Rt).cells.toArray 36) [.bool false, .string ⟨#[]⟩, .int .u8 0, .int .i64 0, .bool false, .bool false, .bool false, .int .i64 0, .int .i64 0, .int .u8 0, .int .u16 0, .slice none 0 0, .slice none 0 0, .int .i64 0, .bool false, .int .u8 0, .int .u8 0, .int .u8 0, .bool false, .int .u8 0, .int .u8 0, .int .u8 0, .int .u16 0, .bool false, .bool false, .int .u8 0, .int .u8 0, .int .u8 0, .int .u16 0, .bool false, .bool false, .int .u8 0] rfl)
 have HB0 := ab.mk (ac (ac (Below.refl w.heap.size w) (.cells (⟨s, Ai, ci, Ar, cr⟩ : Rt).cells.toArray 36)) (.cells [.bool false, .string ⟨#[]⟩, .int .u8 0, .int .i64 0, .bool false, .bool false, .bool false, .int .i64 0, .int .i64 0, .int .u8 0, .int .u16 0, .slice none 0 0, .slice none 0 0, .int .i64 0, .bool false, .int .u8 0, .int .u8 0, .int .u8 0, .bool false, .int .u8 0, .int .u8 0, .int .u8 0, .int .u16 0, .bool false, .bool false, .int .u8 0, .int .u8 0, .int .u8 0, .int .u16 0, .bool false, .bool false, .int .u8 0].toArray 36))
 go_enter Try.func25, Try.ntmps25
 go_wp2_with (first
  | ((with_reducible refine ar (N := 11) rfl ?_); have BX := BX0; have BZ := BZ0; have HB := HB0; clear BX0 BZ0 HB0; generalize (w.alloc (.cells #[.bool true, .string s.hdr.t, .int .u8 s.hdr.kd, .int .i64 s.hdr.mp, .bool s.hdr.rm, .bool s.hdr.bt, .bool s.hdr.ck, .int .i64 s.hdr.bk, .int .i64 s.hdr.sz, .int .u8 s.hdr.sm, .int .u16 s.hdr.wh, .slice Ai s.img.length ci, .slice Ar s.ram.length cr, .int .i64 s.mp.k, .bool s.mp.o, .int .u8 s.mp.l, .int .u8 s.mp.h, .int .u8 s.mp.r, .bool s.mp.md, .int .u8 s.lv.s, .int .u8 s.lv.m, .int .u8 s.lv.h, .int .u16 s.lv.d, .bool s.lv.ht, .bool s.lv.cy, .int .u8 s.hd.s, .int .u8 s.hd.m, .int .u8 s.hd.h, .int .u16 s.hd.d, .bool s.hd.ht, .bool s.hd.cy, .int .u8 s.last] 36)).alloc (.cells #[.bool false, .string ⟨#[]⟩, .int .u8 0, .int .i64 0, .bool false, .bool false, .bool false, .int .i64 0, .int .i64 0, .int .u8 0, .int .u16 0, .slice none 0 0, .slice none 0 0, .int .i64 0, .bool false, .int .u8 0, .int .u8 0, .int .u8 0, .bool false, .int .u8 0, .int .u8 0, .int .u8 0, .int .u16 0, .bool false, .bool false, .int .u8 0, .int .u8 0, .int .u8 0, .int .u16 0, .bool false, .bool false, .int .u8 0] 36) = W at BX BZ HB ⊢; have c0 : W.cell? ⟨w.heap.size, 0, none⟩ = some (.bool true) := ao.c0 BX.out; have c5 : W.cell? ⟨w.heap.size, 5, none⟩ = some (.bool true) := (ao.c5 BX.out).trans (by rw [H5.out]))
  | ((with_reducible refine ar (N := 21) rfl ?_); refine wpList_load_mid rfl 36 (.tmp 2) rfl w.heap.size 0 rfl _ _ (ao.range BX.out) rfl rfl (by kernel_rfl) ?_; simp only [Act.put, List.setIfInBounds_toArray, List.set_cons_zero, List.set_cons_succ]))
 refine (HS.out _ HB.out).mono ?_
 rintro e' w1 ⟨v0, rfl, hr, hb⟩
 obtain ⟨A2, cc2, rfl, hcc2, hC2⟩ := Kd.R_reads hr
 clear hr hC2 c0 c5 HS
 have b_ := ab.mk (BX.out.below hb)
 have z_ := ab.mk (BZ.out.below hb)
 have h_ := ab.mk (ak HB.out hb)
 clear BX BZ HB hb
 have BX := b_
 have BZ := z_
 have HB := h_
 clear b_ z_ h_
 have N2 := ab.mk BZ.out.lt
 have c12 : w1.cell? ⟨w.heap.size, 12, none⟩ = some (.slice Ar s.ram.length cr) := BX.out.c12
 have c6 : w1.cell? ⟨w.heap.size, 6, none⟩ = some (.bool false) := (ao.c6 BX.out).trans (by rw [H6.out])
 go_wp2_with (first
  | ((with_reducible refine ar (N := 51) rfl ?_); refine Kd.R_lit (Kd.int .u8) (w0 := w1) w1.heap.size 5 ?hg (N := 51) ?hd (xs := ([] : List Int)) (inner := []) (ok := fun _ => True) (okp := fun _ => True) ?hr ?hp (fun _ hk => hk) trivial (Below.refl _ _) (Nat.le_refl _) (by simp) ?_; (case hd => rfl); (case hg => rfl); (case hr => first | (go_simp; done) | (go_simp; rfl)); (case hp => exact (Reps.none _ _)); intro v5 w5 ho hb5 hg_ hnew_; clear hg_ hnew_; have HO := ab.mk ho; have HB5 := ab.mk hb5; have b_ := ab.mk (BX.out.below hb5); have h_ := ab.mk (ak HB.out hb5); clear ho hb5)
  | ((with_reducible refine bJ (b := .append) (xs := #[.tmp 51, .tmp 54]) rfl ?_); at_builtin; refine Kd.R_append_rows (Kd.int .u8) (w0 := w1) w1.heap.size rfl (.tmp 51) (.tmp 54) 22 5 (.int .u8 0) 1 rfl Try.underlying22 info5 rfl (by decide) (by omega) v5 [] l _ _ _ (fun _ => True) (fun _ => False) rfl rfl HO.out ?aR (fun _ _ h => h) (fun _ h => h.elim) (fun _ _ => trivial) HB5.out (aw HB5.out) ?aL ?_; (case aR => exact Kd.C_below HT.out h_.out); (case aL => have := HLn.out; have := HN.out; simp; omega); intro v6 w6 ho hb6 hg hat_; clear hg hat_; rw [List.nil_append] at ho; obtain ⟨Ag, cg, rfl, hH⟩ := held_of_R ho; have HH6 := ab.mk hH; have b6 := ab.mk (BX.out.below hb6); have z6 := ab.mk (BZ.out.below hb6); have h6 := ab.mk (ak HB.out hb6); clear ho hb6 hH BX BZ HB b_ h_ HO HB5; have BX := b6; have BZ := z6; have HB := h6; clear b6 z6 h6; have c12 : w6.cell? ⟨w.heap.size, 12, none⟩ = some (.slice Ar s.ram.length cr) := ao.c12 BX.out; have fz12 : w6.frozen? ⟨w.heap.size, 12, none⟩ = false := ao.frozen BX.out 12)
  | ((with_reducible refine ar (N := 57) rfl ?_); have b_ := ab.mk (BX.out.row Ag cg (l)); have z_ := ab.mk (BZ.out.far1 (g := w.heap.size) (by omega) 12 (.slice Ag (l).length cg)); have h_ := ab.mk (show Below w.heap.size w (World.setCell w6 ⟨w.heap.size, 12, none⟩ (.slice Ag (l).length cg)) from ag HB.out (Nat.le_refl _)); have k_ := ab.mk (HH6.out.setOne w.heap.size 12 (.slice Ag (l).length cg) (by have := N2.out; omega)); clear BX BZ HB HH6 c12 fz12; have BX := b_; have BZ := z_; have HB := h_; have HH6 := k_; clear b_ z_ h_ k_; generalize World.setCell w6 _ _ = W7 at BX BZ HB HH6 ⊢; refine wpList_load_mid rfl 36 (.tmp 2) rfl w.heap.size 0 rfl _ _ (ao.range BX.out) rfl rfl (by kernel_rfl) ?_; simp only [Act.put, List.setIfInBounds_toArray, List.set_cons_zero, List.set_cons_succ])
  | ((with_reducible refine az (t := 36) (p := 4) (v := .tmp 57) rfl ?_); have k6 := ab.mk (HH6.out.setAll (w.heap.size + 1) 0 (⟨{ s with ram := l }, Ai, ci, Ag, cg⟩ : Rt).cells (by have := N2.out; omega)); have y0 := ab.mk (BZ.out.fill (⟨{ s with ram := l }, Ai, ci, Ag, cg⟩ : Rt)); have y1 := ab.mk (ay HB.out (w.heap.size + 1) 0 (by omega) (⟨{ s with ram := l }, Ai, ci, Ag, cg⟩ : Rt).cells); refine wpList_store_mid rfl 36 (.tmp 4) (.tmp 57) rfl (w.heap.size + 1) 0 _ rfl rfl BZ.out.there (by kernel_rfl) (Rt.one _) ?_; generalize World.setCells _ (w.heap.size + 1) 0 _ = Y at y0 y1 k6 ⊢; simp only [Act.put, List.setIfInBounds_toArray, List.set_cons_zero, List.set_cons_succ]))
 refine bodyPost_ret (bq rfl _ _ _ _ _ _ _ rfl y0.out rfl rfl (by kernel_rfl)) rfl ⟨Ag, cg, rfl, k6.out.base (by have := N2.out; omega), y1.out⟩
theorem rload_ok2 (s : Ct) (Ai : Option Addr) (ci : Nat) (Ar : Option Addr) (cr : Nat) (A : Option Addr) (c : Nat) (l : List Int) (L : List Int) (hbt : s.hdr.bt = true) (hck : s.hdr.ck = true) (x y : Ck) (bad : Int) (hq : ((l.length : Int) == (L.length : Int)) = true) (hln : s.ram.length ≤ 1048576) (hb0 : (bad == 0) = true) (T : List Int) (hT : T = l.take s.ram.length) (hn : l.length = s.ram.length + 10) (hc : l.length ≤ c) (hof : ∀ (A' : Option Addr) (c' : Nat) (w1 : World), Kd.C (Kd.int .u8) w1 A' (l.drop s.ram.length).length (l.drop s.ram.length) → (l.drop s.ram.length).length ≤ c' → Calls Try.prog 51 #[.slice A' (l.drop s.ram.length).length c'] w1 fun e w' => e = .returned (.tuple #[.agg #[.int .u8 x.s, .int .u8 x.m, .int .u8 x.h, .int .u16 x.d, .bool x.ht, .bool x.cy], .agg #[.int .u8 y.s, .int .u8 y.m, .int .u8 y.h, .int .u16 y.d, .bool y.ht, .bool y.cy], .int .i64 bad]) ∧ Below w1.heap.size w1 w') (w : World) (hr : Kd.C (Kd.int .u8) w A l.length l) (hs : ∀ w1 : World, Below w.heap.size w w1 → Calls Try.prog 23 #[(⟨s, Ai, ci, Ar, cr⟩ : Rt).v] w1 fun e w' => ∃ v0 : Value, e = .returned v0 ∧ Kd.R (Kd.int .u8) 5 w' w1.heap.size (fun _ => True) v0 L ∧ Below w1.heap.size w1 w') :
  Calls Try.prog 25 #[(⟨s, Ai, ci, Ar, cr⟩ : Rt).v, .slice A l.length c] w fun e w' => ∃ Ag cg, e = .returned (.tuple #[(⟨{ s with lv := x, hd := y, ram := T }, Ai, ci, Ag, cg⟩ : Rt).v, .int .i64 0]) ∧ Held w' w.heap.size Ag cg T ∧ Below w.heap.size w w' := by
 have H5 := ab.mk hbt
 clear hbt
 have HS := ab.mk hs
 clear hs
 have H6 := ab.mk hck
 have HOF := ab.mk hof
 clear hck hof
 have HN := ab.mk hn
 have HC := ab.mk hc
 have HI := ab.mk hr
 have hcn : ¬ c = s.ram.length := by omega
 have hcm : ¬ s.ram.length = c := by omega
 have HD := ab.mk (Kd.C_drop (m := s.ram.length) hr (by omega) hc)
 obtain ⟨ad, rfl, _⟩ := Kd.at_int hr 0 (by omega) (by omega)
 have hs0 : (0 : Int) ≤ (s.ram.length : Int) := by omega
 have hs1 : (s.ram.length : Int) ≤ (l.length : Int) := by omega
 have hs2 : (l.length : Int) ≤ (c : Int) := by omega
 have hs3 : (s.ram.length : Int) ≤ (c : Int) := by omega
 have HD2 := HD.out
 rw [if_neg hcn] at HD2
 have e1 : s.ram.length * (Kd.int .u8).sz = s.ram.length := Nat.mul_one _
 rw [Option.map_some, e1] at HD2
 have HQ : ab (Kd.C (Kd.int .u8) w (some (ad.add s.ram.length)) (l.drop s.ram.length).length (l.drop s.ram.length)) := ab.mk HD2
 clear e1 HD HD2 hr hc hn
 have HLn := ab.mk hln
 have HTl := ab.mk (show T.length = s.ram.length by rw [hT, List.length_take]; have := HN.out; omega)
 have HT : ab (Kd.C (Kd.int .u8) w (some ad) s.ram.length T) := ab.mk (by
  have q := Kd.C_take (m := s.ram.length) HI.out (by have := HN.out; omega)
  rw [← hT, HTl.out] at q
  exact q)
 clear hT hln
 have BX0 := ab.mk (ao.alloc (ao.new w (⟨s, Ai, ci, Ar, cr⟩ : Rt)) (.cells [.bool false, .string ⟨#[]⟩, .int .u8 0, .int .i64 0, .bool false, .bool false, .bool false, .int .i64 0, .int .i64 0, .int .u8 0, .int .u16 0, .slice none 0 0, .slice none 0 0, .int .i64 0, .bool false, .int .u8 0, .int .u8 0, .int .u8 0, .bool false, .int .u8 0, .int .u8 0, .int .u8 0, .int .u16 0, .bool false, .bool false, .int .u8 0, .int .u8 0, .int .u8 0, .int .u16 0, .bool false, .bool false, .int .u8 0].toArray 36))
 have BZ0 := ab.mk (bF w (.cells (⟨s, Ai, ci, Ar, cr⟩ : Rt).cells.toArray 36) [.bool false, .string ⟨#[]⟩, .int .u8 0, .int .i64 0, .bool false, .bool false, .bool false, .int .i64 0, .int .i64 0, .int .u8 0, .int .u16 0, .slice none 0 0, .slice none 0 0, .int .i64 0, .bool false, .int .u8 0, .int .u8 0, .int .u8 0, .bool false, .int .u8 0, .int .u8 0, .int .u8 0, .int .u16 0, .bool false, .bool false, .int .u8 0, .int .u8 0, .int .u8 0, .int .u16 0, .bool false, .bool false, .int .u8 0] rfl)
 have HB0 := ab.mk (ac (ac (Below.refl w.heap.size w) (.cells (⟨s, Ai, ci, Ar, cr⟩ : Rt).cells.toArray 36)) (.cells [.bool false, .string ⟨#[]⟩, .int .u8 0, .int .i64 0, .bool false, .bool false, .bool false, .int .i64 0, .int .i64 0, .int .u8 0, .int .u16 0, .slice none 0 0, .slice none 0 0, .int .i64 0, .bool false, .int .u8 0, .int .u8 0, .int .u8 0, .bool false, .int .u8 0, .int .u8 0, .int .u8 0, .int .u16 0, .bool false, .bool false, .int .u8 0, .int .u8 0, .int .u8 0, .int .u16 0, .bool false, .bool false, .int .u8 0].toArray 36))
 go_enter Try.func25, Try.ntmps25
 go_wp2_with (first
  | ((with_reducible refine ar (N := 11) rfl ?_); have BX := BX0; have BZ := BZ0; have HB := HB0; clear BX0 BZ0 HB0; generalize (w.alloc (.cells #[.bool true, .string s.hdr.t, .int .u8 s.hdr.kd, .int .i64 s.hdr.mp, .bool s.hdr.rm, .bool s.hdr.bt, .bool s.hdr.ck, .int .i64 s.hdr.bk, .int .i64 s.hdr.sz, .int .u8 s.hdr.sm, .int .u16 s.hdr.wh, .slice Ai s.img.length ci, .slice Ar s.ram.length cr, .int .i64 s.mp.k, .bool s.mp.o, .int .u8 s.mp.l, .int .u8 s.mp.h, .int .u8 s.mp.r, .bool s.mp.md, .int .u8 s.lv.s, .int .u8 s.lv.m, .int .u8 s.lv.h, .int .u16 s.lv.d, .bool s.lv.ht, .bool s.lv.cy, .int .u8 s.hd.s, .int .u8 s.hd.m, .int .u8 s.hd.h, .int .u16 s.hd.d, .bool s.hd.ht, .bool s.hd.cy, .int .u8 s.last] 36)).alloc (.cells #[.bool false, .string ⟨#[]⟩, .int .u8 0, .int .i64 0, .bool false, .bool false, .bool false, .int .i64 0, .int .i64 0, .int .u8 0, .int .u16 0, .slice none 0 0, .slice none 0 0, .int .i64 0, .bool false, .int .u8 0, .int .u8 0, .int .u8 0, .bool false, .int .u8 0, .int .u8 0, .int .u8 0, .int .u16 0, .bool false, .bool false, .int .u8 0, .int .u8 0, .int .u8 0, .int .u16 0, .bool false, .bool false, .int .u8 0] 36) = W at BX BZ HB ⊢; have c0 : W.cell? ⟨w.heap.size, 0, none⟩ = some (.bool true) := ao.c0 BX.out; have c5 : W.cell? ⟨w.heap.size, 5, none⟩ = some (.bool true) := (ao.c5 BX.out).trans (by rw [H5.out]))
  | ((with_reducible refine ar (N := 21) rfl ?_); refine wpList_load_mid rfl 36 (.tmp 2) rfl w.heap.size 0 rfl _ _ (ao.range BX.out) rfl rfl (by kernel_rfl) ?_; simp only [Act.put, List.setIfInBounds_toArray, List.set_cons_zero, List.set_cons_succ]))
 refine (HS.out _ HB.out).mono ?_
 rintro e' w1 ⟨v0, rfl, hr, hb⟩
 obtain ⟨A2, cc2, rfl, hcc2, hC2⟩ := Kd.R_reads hr
 clear hr hC2 c0 c5 HS
 have b_ := ab.mk (BX.out.below hb)
 have z_ := ab.mk (BZ.out.below hb)
 have h_ := ab.mk (ak HB.out hb)
 clear BX BZ HB hb
 have BX := b_
 have BZ := z_
 have HB := h_
 clear b_ z_ h_
 have c12 : w1.cell? ⟨w.heap.size, 12, none⟩ = some (.slice Ar s.ram.length cr) := BX.out.c12
 have c6 : w1.cell? ⟨w.heap.size, 6, none⟩ = some (.bool true) := (ao.c6 BX.out).trans (by rw [H6.out])
 go_wp2_with fail
 have hlen : (l.drop s.ram.length).length = l.length - s.ram.length := by simp
 have q := HOF.out (some (ad.add s.ram.length)) (c - s.ram.length) w1 (Kd.C_below HQ.out HB.out) (by have := HC.out; have := HN.out; omega)
 rw [hlen] at q
 refine q.mono ?_
 clear q hlen
 rintro e' w2 ⟨rfl, hb⟩
 clear c12 c6
 have b_ := ab.mk (BX.out.below hb)
 have z_ := ab.mk (BZ.out.below hb)
 have h_ := ab.mk (ak HB.out hb)
 clear BX BZ HB hb
 have BX := b_
 have BZ := z_
 have HB := h_
 clear b_ z_ h_
 have MARK := trivial
 go_wp2_with (first
  | (clear MARK; (with_reducible refine ar (N := 47) rfl ?_); have b_ := ab.mk (ao.alloc (ao.alloc BX.out (.cells #[.int .u8 x.s, .int .u8 x.m, .int .u8 x.h, .int .u16 x.d, .bool x.ht, .bool x.cy] 34)) (.cells #[.int .u8 y.s, .int .u8 y.m, .int .u8 y.h, .int .u16 y.d, .bool y.ht, .bool y.cy] 34)); have z_ := ab.mk (bo.alloc (bo.alloc BZ.out (.cells #[.int .u8 x.s, .int .u8 x.m, .int .u8 x.h, .int .u16 x.d, .bool x.ht, .bool x.cy] 34)) (.cells #[.int .u8 y.s, .int .u8 y.m, .int .u8 y.h, .int .u16 y.d, .bool y.ht, .bool y.cy] 34)); have h_ := ab.mk (ac (ac HB.out (.cells #[.int .u8 x.s, .int .u8 x.m, .int .u8 x.h, .int .u16 x.d, .bool x.ht, .bool x.cy] 34)) (.cells #[.int .u8 y.s, .int .u8 y.m, .int .u8 y.h, .int .u16 y.d, .bool y.ht, .bool y.cy] 34)); have x_ := ab.mk (ah (aC w2 (.cells #[.int .u8 x.s, .int .u8 x.m, .int .u8 x.h, .int .u16 x.d, .bool x.ht, .bool x.cy] 34)) (.cells #[.int .u8 y.s, .int .u8 y.m, .int .u8 y.h, .int .u16 y.d, .bool y.ht, .bool y.cy] 34)); have y_ := ab.mk (blk_two' w2 (.cells #[.int .u8 x.s, .int .u8 x.m, .int .u8 x.h, .int .u16 x.d, .bool x.ht, .bool x.cy] 34) (.cells #[.int .u8 y.s, .int .u8 y.m, .int .u8 y.h, .int .u16 y.d, .bool y.ht, .bool y.cy] 34)); have n_ := ab.mk (BZ.out.lt); clear BX BZ HB; have BX := b_; have BZ := z_; have HB := h_; have B8 := x_; have B9 := y_; have N2 := n_; clear b_ z_ h_ x_ y_ n_; generalize (w2.alloc (.cells #[.int .u8 x.s, .int .u8 x.m, .int .u8 x.h, .int .u16 x.d, .bool x.ht, .bool x.cy] 34)).alloc (.cells #[.int .u8 y.s, .int .u8 y.m, .int .u8 y.h, .int .u16 y.d, .bool y.ht, .bool y.cy] 34) = W3 at BX BZ HB B8 B9 ⊢; have d0 : W3.cell? ⟨w2.heap.size, 0, none⟩ = some (.int .u8 x.s) := (aa B8.out 0).trans rfl; have d1 : W3.cell? ⟨w2.heap.size, 1, none⟩ = some (.int .u8 x.m) := (aa B8.out 1).trans rfl; have d2 : W3.cell? ⟨w2.heap.size, 2, none⟩ = some (.int .u8 x.h) := (aa B8.out 2).trans rfl; have d3 : W3.cell? ⟨w2.heap.size, 3, none⟩ = some (.int .u16 x.d) := (aa B8.out 3).trans rfl; have d4 : W3.cell? ⟨w2.heap.size, 4, none⟩ = some (.bool x.ht) := (aa B8.out 4).trans rfl; have d5 : W3.cell? ⟨w2.heap.size, 5, none⟩ = some (.bool x.cy) := (aa B8.out 5).trans rfl)
  | ((with_reducible refine az (t := 34) (p := 48) (v := .tmp 47) rfl ?_); have b_ := ab.mk (BX.out.setL x); have z_ := ab.mk (BZ.out.far (g := w.heap.size) (by omega) 19 [.int .u8 x.s, .int .u8 x.m, .int .u8 x.h, .int .u16 x.d, .bool x.ht, .bool x.cy]); have h_ := ab.mk (ay HB.out w.heap.size 19 (by omega) [.int .u8 x.s, .int .u8 x.m, .int .u8 x.h, .int .u16 x.d, .bool x.ht, .bool x.cy]); have k_ := ab.mk (blk_setFar B9.out (show w2.heap.size + 1 ≠ w.heap.size by have := N2.out; omega) 19 [.int .u8 x.s, .int .u8 x.m, .int .u8 x.h, .int .u16 x.d, .bool x.ht, .bool x.cy]); have s_ := ab.mk (show W3.heap.size ≤ (W3.setCells w.heap.size 19 [.int .u8 x.s, .int .u8 x.m, .int .u8 x.h, .int .u16 x.d, .bool x.ht, .bool x.cy]).heap.size from (cB W3 w.heap.size 19 [.int .u8 x.s, .int .u8 x.m, .int .u8 x.h, .int .u16 x.d, .bool x.ht, .bool x.cy]).size); refine wpList_store_mid rfl 34 (.tmp 48) (.tmp 47) rfl w.heap.size 19 _ rfl rfl (BX.out.thereAt 19 6 (by decide)) (by kernel_rfl) (by simp [Value.oneCell']) ?_; clear BX BZ HB B9 B8 d0 d1 d2 d3 d4 d5; have BX := b_; have BZ := z_; have HB := h_; clear b_ z_ h_; have B9 := k_; clear k_; generalize World.setCells _ w.heap.size 19 _ = W4 at BX BZ HB s_ B9 ⊢; have e_0 : W4.cell? ⟨(w2.heap.size + 1), 0, none⟩ = some (.int .u8 y.s) := (aa B9.out 0).trans rfl; have e_1 : W4.cell? ⟨(w2.heap.size + 1), 1, none⟩ = some (.int .u8 y.m) := (aa B9.out 1).trans rfl; have e_2 : W4.cell? ⟨(w2.heap.size + 1), 2, none⟩ = some (.int .u8 y.h) := (aa B9.out 2).trans rfl; have e_3 : W4.cell? ⟨(w2.heap.size + 1), 3, none⟩ = some (.int .u16 y.d) := (aa B9.out 3).trans rfl; have e_4 : W4.cell? ⟨(w2.heap.size + 1), 4, none⟩ = some (.bool y.ht) := (aa B9.out 4).trans rfl; have e_5 : W4.cell? ⟨(w2.heap.size + 1), 5, none⟩ = some (.bool y.cy) := (aa B9.out 5).trans rfl; clear s_; simp only [Act.put, List.setIfInBounds_toArray, List.set_cons_zero, List.set_cons_succ])
  | ((with_reducible refine az (t := 34) (p := 50) (v := .tmp 49) rfl ?_); have b_ := ab.mk (BX.out.setH y); have z_ := ab.mk (BZ.out.far (g := w.heap.size) (by omega) 25 [.int .u8 y.s, .int .u8 y.m, .int .u8 y.h, .int .u16 y.d, .bool y.ht, .bool y.cy]); have h_ := ab.mk (ay HB.out w.heap.size 25 (by omega) [.int .u8 y.s, .int .u8 y.m, .int .u8 y.h, .int .u16 y.d, .bool y.ht, .bool y.cy]); have s_ := ab.mk (show W4.heap.size ≤ (W4.setCells w.heap.size 25 [.int .u8 y.s, .int .u8 y.m, .int .u8 y.h, .int .u16 y.d, .bool y.ht, .bool y.cy]).heap.size from (cB W4 w.heap.size 25 [.int .u8 y.s, .int .u8 y.m, .int .u8 y.h, .int .u16 y.d, .bool y.ht, .bool y.cy]).size); refine wpList_store_mid rfl 34 (.tmp 50) (.tmp 49) rfl w.heap.size 25 _ rfl rfl (BX.out.thereAt 25 6 (by decide)) (by kernel_rfl) (by simp [Value.oneCell']) ?_; clear BX BZ HB B9 e_0 e_1 e_2 e_3 e_4 e_5; have BX := b_; have BZ := z_; have HB := h_; clear b_ z_ h_; generalize World.setCells _ w.heap.size 25 _ = W6 at BX BZ HB s_ ⊢; have N3 := ab.mk BZ.out.lt; clear N2 s_; have N2 := N3; clear N3; simp only [Act.put, List.setIfInBounds_toArray, List.set_cons_zero, List.set_cons_succ])
  | ((with_reducible refine ar (N := 51) rfl ?_); refine Kd.R_lit (Kd.int .u8) (w0 := W6) W6.heap.size 5 ?hg (N := 51) ?hd (xs := ([] : List Int)) (inner := []) (ok := fun _ => True) (okp := fun _ => True) ?hr ?hp (fun _ hk => hk) trivial (Below.refl _ _) (Nat.le_refl _) (by simp) ?_; (case hd => rfl); (case hg => rfl); (case hr => first | (go_simp; done) | (go_simp; rfl)); (case hp => exact (Reps.none _ _)); intro v5 w5 ho hb5 hg_ hnew_; clear hg_ hnew_; have HO := ab.mk ho; have HB5 := ab.mk hb5; have b_ := ab.mk (BX.out.below hb5); have h_ := ab.mk (ak HB.out hb5); clear ho hb5)
  | ((with_reducible refine bJ (b := .append) (xs := #[.tmp 51, .tmp 54]) rfl ?_); at_builtin; refine Kd.R_append_rows (Kd.int .u8) (w0 := W6) W6.heap.size rfl (.tmp 51) (.tmp 54) 22 5 (.int .u8 0) 1 rfl Try.underlying22 info5 rfl (by decide) (by omega) v5 [] T _ _ _ (fun _ => True) (fun _ => False) rfl rfl HO.out ?aR (fun _ _ h => h) (fun _ h => h.elim) (fun _ _ => trivial) HB5.out (aw HB5.out) ?aL ?_; (case aR => exact Kd.C_below HT.out h_.out); (case aL => have := HLn.out; have := HN.out; simp; omega); intro v6 w6 ho hb6 hg hat_; clear hg hat_; rw [List.nil_append] at ho; obtain ⟨Ag, cg, rfl, hH⟩ := held_of_R ho; have HH6 := ab.mk hH; have b6 := ab.mk (BX.out.below hb6); have z6 := ab.mk (BZ.out.below hb6); have h6 := ab.mk (ak HB.out hb6); clear ho hb6 hH BX BZ HB b_ h_ HO HB5; have BX := b6; have BZ := z6; have HB := h6; clear b6 z6 h6; have c12 : w6.cell? ⟨w.heap.size, 12, none⟩ = some (.slice Ar s.ram.length cr) := ao.c12 BX.out; have fz12 : w6.frozen? ⟨w.heap.size, 12, none⟩ = false := ao.frozen BX.out 12)
  | ((with_reducible refine ar (N := 57) rfl ?_); have b_ := ab.mk (BX.out.row Ag cg (T)); have z_ := ab.mk (BZ.out.far1 (g := w.heap.size) (by omega) 12 (.slice Ag (T).length cg)); have h_ := ab.mk (show Below w.heap.size w (World.setCell w6 ⟨w.heap.size, 12, none⟩ (.slice Ag (T).length cg)) from ag HB.out (Nat.le_refl _)); have k_ := ab.mk (HH6.out.setOne w.heap.size 12 (.slice Ag (T).length cg) (by have := N2.out; omega)); clear BX BZ HB HH6 c12 fz12; have BX := b_; have BZ := z_; have HB := h_; have HH6 := k_; clear b_ z_ h_ k_; generalize World.setCell w6 _ _ = W7 at BX BZ HB HH6 ⊢; refine wpList_load_mid rfl 36 (.tmp 2) rfl w.heap.size 0 rfl _ _ (ao.range BX.out) rfl rfl (by kernel_rfl) ?_; simp only [Act.put, List.setIfInBounds_toArray, List.set_cons_zero, List.set_cons_succ])
  | ((with_reducible refine az (t := 36) (p := 4) (v := .tmp 57) rfl ?_); have k6 := ab.mk (HH6.out.setAll (w.heap.size + 1) 0 (⟨{ s with lv := x, hd := y, ram := T }, Ai, ci, Ag, cg⟩ : Rt).cells (by have := N2.out; omega)); have y0 := ab.mk (BZ.out.fill (⟨{ s with lv := x, hd := y, ram := T }, Ai, ci, Ag, cg⟩ : Rt)); have y1 := ab.mk (ay HB.out (w.heap.size + 1) 0 (by omega) (⟨{ s with lv := x, hd := y, ram := T }, Ai, ci, Ag, cg⟩ : Rt).cells); refine wpList_store_mid rfl 36 (.tmp 4) (.tmp 57) rfl (w.heap.size + 1) 0 _ rfl rfl BZ.out.there (by kernel_rfl) (Rt.one _) ?_; generalize World.setCells _ (w.heap.size + 1) 0 _ = Y at y0 y1 k6 ⊢; simp only [Act.put, List.setIfInBounds_toArray, List.set_cons_zero, List.set_cons_succ]))
 refine bodyPost_ret (bq rfl _ _ _ _ _ _ _ rfl y0.out rfl rfl (by kernel_rfl)) rfl ⟨Ag, cg, rfl, k6.out.base (by have := N2.out; omega), y1.out⟩
theorem rnew_bad (A : Option Addr) (c : Nat) (l : List Int) (h : Hd) (e : Int) (he : (e == 0) = false) (w : World) (hp : ∀ w1 : World, Below w.heap.size w w1 → Calls Try.prog 30 #[.slice A l.length c] w1 fun e' w' => e' = .returned (.tuple #[.agg #[.string h.t, .int .u8 h.kd, .int .i64 h.mp, .bool h.rm, .bool h.bt, .bool h.ck, .int .i64 h.bk, .int .i64 h.sz, .int .u8 h.sm, .int .u16 h.wh], .int .i64 e]) ∧ Below w1.heap.size w1 w') :
  Calls Try.prog 11 #[.slice A l.length c] w fun e' w' => e' = .returned (.tuple #[.agg #[.bool false, .string ⟨#[]⟩, .int .u8 0, .int .i64 0, .bool false, .bool false, .bool false, .int .i64 0, .int .i64 0, .int .u8 0, .int .u16 0, .slice none 0 0, .slice none 0 0, .int .i64 0, .bool false, .int .u8 0, .int .u8 0, .int .u8 0, .bool false, .int .u8 0, .int .u8 0, .int .u8 0, .int .u16 0, .bool false, .bool false, .int .u8 0, .int .u8 0, .int .u8 0, .int .u16 0, .bool false, .bool false, .int .u8 0], .int .i64 e]) ∧ Below w.heap.size w w' := by
 have BZ0 := ab.mk (bo.new w [.bool false, .string ⟨#[]⟩, .int .u8 0, .int .i64 0, .bool false, .bool false, .bool false, .int .i64 0, .int .i64 0, .int .u8 0, .int .u16 0, .slice none 0 0, .slice none 0 0, .int .i64 0, .bool false, .int .u8 0, .int .u8 0, .int .u8 0, .bool false, .int .u8 0, .int .u8 0, .int .u8 0, .int .u16 0, .bool false, .bool false, .int .u8 0, .int .u8 0, .int .u8 0, .int .u16 0, .bool false, .bool false, .int .u8 0] rfl)
 have HB0 := ab.mk (ac (Below.refl w.heap.size w) (.cells [.bool false, .string ⟨#[]⟩, .int .u8 0, .int .i64 0, .bool false, .bool false, .bool false, .int .i64 0, .int .i64 0, .int .u8 0, .int .u16 0, .slice none 0 0, .slice none 0 0, .int .i64 0, .bool false, .int .u8 0, .int .u8 0, .int .u8 0, .bool false, .int .u8 0, .int .u8 0, .int .u8 0, .int .u16 0, .bool false, .bool false, .int .u8 0, .int .u8 0, .int .u8 0, .int .u16 0, .bool false, .bool false, .int .u8 0].toArray 36))
 have HP := ab.mk hp
 clear hp
 go_enter Try.func11, Try.ntmps11
 go_wp2_with fail
 refine (HP.out _ HB0.out).mono ?_
 rintro e' w1 ⟨rfl, hb⟩
 have BZ := ab.mk (BZ0.out.below hb)
 have HB := ab.mk (ak HB0.out hb)
 clear HP BZ0 HB0 hb
 have MARK := trivial
 go_wp2_with (first
  | ((with_reducible refine ar (N := 15) rfl ?_); clear MARK; have z_ := ab.mk (BZ.out.alloc (.cells #[.string h.t, .int .u8 h.kd, .int .i64 h.mp, .bool h.rm, .bool h.bt, .bool h.ck, .int .i64 h.bk, .int .i64 h.sz, .int .u8 h.sm, .int .u16 h.wh] 30)); have h_ := ab.mk (ac HB.out (.cells #[.string h.t, .int .u8 h.kd, .int .i64 h.mp, .bool h.rm, .bool h.bt, .bool h.ck, .int .i64 h.bk, .int .i64 h.sz, .int .u8 h.sm, .int .u16 h.wh] 30)); have x_ := ab.mk (aC w1 (.cells #[.string h.t, .int .u8 h.kd, .int .i64 h.mp, .bool h.rm, .bool h.bt, .bool h.ck, .int .i64 h.bk, .int .i64 h.sz, .int .u8 h.sm, .int .u16 h.wh] 30)); clear BZ HB ; have BZ := z_; have HB := h_; have BH := x_; clear z_ h_ x_; generalize w1.alloc (.cells #[.string h.t, .int .u8 h.kd, .int .i64 h.mp, .bool h.rm, .bool h.bt, .bool h.ck, .int .i64 h.bk, .int .i64 h.sz, .int .u8 h.sm, .int .u16 h.wh] 30) = W2 at BZ HB BH  ⊢)
  | ((with_reducible refine az (t := 36) (p := 2) (v := .tmp 15) rfl ?_); have y0 := ab.mk (BZ.out.fillZ [.bool false, .string ⟨#[]⟩, .int .u8 0, .int .i64 0, .bool false, .bool false, .bool false, .int .i64 0, .int .i64 0, .int .u8 0, .int .u16 0, .slice none 0 0, .slice none 0 0, .int .i64 0, .bool false, .int .u8 0, .int .u8 0, .int .u8 0, .bool false, .int .u8 0, .int .u8 0, .int .u8 0, .int .u16 0, .bool false, .bool false, .int .u8 0, .int .u8 0, .int .u8 0, .int .u16 0, .bool false, .bool false, .int .u8 0] rfl); have y1 := ab.mk (ay HB.out w.heap.size 0 (Nat.le_refl _) [.bool false, .string ⟨#[]⟩, .int .u8 0, .int .i64 0, .bool false, .bool false, .bool false, .int .i64 0, .int .i64 0, .int .u8 0, .int .u16 0, .slice none 0 0, .slice none 0 0, .int .i64 0, .bool false, .int .u8 0, .int .u8 0, .int .u8 0, .bool false, .int .u8 0, .int .u8 0, .int .u8 0, .int .u16 0, .bool false, .bool false, .int .u8 0, .int .u8 0, .int .u8 0, .int .u16 0, .bool false, .bool false, .int .u8 0]); refine wpList_store_mid rfl 36 (.tmp 2) (.tmp 15) rfl w.heap.size 0 (List.toArray [.bool false, .string ⟨#[]⟩, .int .u8 0, .int .i64 0, .bool false, .bool false, .bool false, .int .i64 0, .int .i64 0, .int .u8 0, .int .u16 0, .slice none 0 0, .slice none 0 0, .int .i64 0, .bool false, .int .u8 0, .int .u8 0, .int .u8 0, .bool false, .int .u8 0, .int .u8 0, .int .u8 0, .int .u16 0, .bool false, .bool false, .int .u8 0, .int .u8 0, .int .u8 0, .int .u16 0, .bool false, .bool false, .int .u8 0]) rfl rfl BZ.out.there (by kernel_rfl) (by simp [Value.oneCell']) ?_; generalize World.setCells _ w.heap.size 0 _ = Y at y0 y1 ⊢; simp only [Act.put, List.setIfInBounds_toArray, List.set_cons_zero, List.set_cons_succ]))
 refine bodyPost_ret (bq rfl _ _ _ _ _ _ _ rfl y0.out rfl rfl (by kernel_rfl)) rfl ⟨rfl, y1.out⟩
def rnew5.T : Bool × List (List Nat × List Nat) := (true, [([], []), ([], []), ([], []), ([2], [2]), ([3, 3], [3]), ([], []), ([0, 1, 4, 5], [0, 1, 4, 5]), ([6, 0, 1, 2, 3, 4, 5, 6], [6]), ([7, 0, 1, 2, 3, 4, 5, 6, 7], [])])
def rnew5.B : List Nat := [0, 0, 0, 4, 12, 0, 63, 127, 255]
theorem rnew5.tab : rtab .any (opsOf Try.f11 5) = rnew5.T := by kernel_rfl
theorem rnew5.bits : waitsOk rnew5.T.2 rnew5.B = true := by kernel_rfl
theorem rnew_ok (A : Option Addr) (c : Nat) (l : List Int) (h : Hd) (w : World) (hp : ∀ w1 : World, Below w.heap.size w w1 → Calls Try.prog 30 #[.slice A l.length c] w1 fun e' w' => e' = .returned (.tuple #[.agg #[.string h.t, .int .u8 h.kd, .int .i64 h.mp, .bool h.rm, .bool h.bt, .bool h.ck, .int .i64 h.bk, .int .i64 h.sz, .int .u8 h.sm, .int .u16 h.wh], .int .i64 0]) ∧ Below w1.heap.size w1 w') (hr : Kd.C (Kd.int .u8) w A l.length l) (hc : l.length ≤ c) (hm : Puts 31 #[.int .i64 h.mp] (.tuple #[.agg #[.int .i64 h.mp, .bool false, .int .u8 0, .int .u8 0, .int .u8 0, .bool false], .int .i64 0])) (hs0 : 0 ≤ h.sz) (hs1 : h.sz ≤ 1048576) :
  Calls Try.prog 11 #[.slice A l.length c] w fun e' w' => ∃ g, e' = .returned (.tuple #[(⟨Ct.new h l, A, c, some ⟨g, 0, none⟩, h.sz.toNat⟩ : Rt).v, .int .i64 0]) ∧ HeadL w' g (List.replicate h.sz.toNat 0) ∧ w.heap.size ≤ g ∧ Below w.heap.size w w' := by
 have HM := ab.mk hm
 have HMK := ab.mk (show ∀ W : World, (Instr.makeSlice 22 (.int .i64 h.sz) (.int .i64 h.sz)).run Try.prog W = .ok (.slice (some ⟨W.heap.size, 0, none⟩) h.sz.toNat h.sz.toNat) (W.alloc (.cells ((List.replicate h.sz.toNat (0 : Int)).map (Value.int .u8)).toArray 5)) from fun W => makeRun W h.sz hs0 hs1)
 clear hm hr hc
 have BZ0 := ab.mk (bo.new w [.bool false, .string ⟨#[]⟩, .int .u8 0, .int .i64 0, .bool false, .bool false, .bool false, .int .i64 0, .int .i64 0, .int .u8 0, .int .u16 0, .slice none 0 0, .slice none 0 0, .int .i64 0, .bool false, .int .u8 0, .int .u8 0, .int .u8 0, .bool false, .int .u8 0, .int .u8 0, .int .u8 0, .int .u16 0, .bool false, .bool false, .int .u8 0, .int .u8 0, .int .u8 0, .int .u16 0, .bool false, .bool false, .int .u8 0] rfl)
 have HB0 := ab.mk (ac (Below.refl w.heap.size w) (.cells [.bool false, .string ⟨#[]⟩, .int .u8 0, .int .i64 0, .bool false, .bool false, .bool false, .int .i64 0, .int .i64 0, .int .u8 0, .int .u16 0, .slice none 0 0, .slice none 0 0, .int .i64 0, .bool false, .int .u8 0, .int .u8 0, .int .u8 0, .bool false, .int .u8 0, .int .u8 0, .int .u8 0, .int .u16 0, .bool false, .bool false, .int .u8 0, .int .u8 0, .int .u8 0, .int .u16 0, .bool false, .bool false, .int .u8 0].toArray 36))
 have HP := ab.mk hp
 clear hp
 go_enter Try.func11, Try.ntmps11
 go_wp2_with fail
 refine (HP.out _ HB0.out).mono ?_
 rintro e' w1 ⟨rfl, hb⟩
 have BZ := ab.mk (BZ0.out.below hb)
 have HB := ab.mk (ak HB0.out hb)
 clear HP BZ0 HB0 hb
 have N1 := ab.mk BZ.out.lt
 have MARK := trivial
 go_wp2_with (first
  | ((with_reducible refine ar (N := 18) rfl ?_); clear MARK; have z_ := ab.mk (BZ.out.alloc (.cells #[.string h.t, .int .u8 h.kd, .int .i64 h.mp, .bool h.rm, .bool h.bt, .bool h.ck, .int .i64 h.bk, .int .i64 h.sz, .int .u8 h.sm, .int .u16 h.wh] 30)); have h_ := ab.mk (ac HB.out (.cells #[.string h.t, .int .u8 h.kd, .int .i64 h.mp, .bool h.rm, .bool h.bt, .bool h.ck, .int .i64 h.bk, .int .i64 h.sz, .int .u8 h.sm, .int .u16 h.wh] 30)); have x_ := ab.mk (aC w1 (.cells #[.string h.t, .int .u8 h.kd, .int .i64 h.mp, .bool h.rm, .bool h.bt, .bool h.ck, .int .i64 h.bk, .int .i64 h.sz, .int .u8 h.sm, .int .u16 h.wh] 30)); clear BZ HB ; have BZ := z_; have HB := h_; have BH := x_; clear z_ h_ x_; generalize w1.alloc (.cells #[.string h.t, .int .u8 h.kd, .int .i64 h.mp, .bool h.rm, .bool h.bt, .bool h.ck, .int .i64 h.bk, .int .i64 h.sz, .int .u8 h.sm, .int .u16 h.wh] 30) = W2 at BZ HB BH  ⊢; have NE1 := ab.mk (show w1.heap.size ≠ w.heap.size by have := N1.out; omega); have c2 : W2.cell? ⟨w1.heap.size, 2, none⟩ = some (.int .i64 h.mp) := (aa BH.out 2).trans rfl))
 refine (HM.out.run _).mono ?_
 rintro e' w2 ⟨rfl, hb⟩
 have z_ := ab.mk (BZ.out.below hb)
 have h_ := ab.mk (ak HB.out hb)
 have x_ := ab.mk (af BH.out hb)
 clear BZ HB BH hb c2 HM N1
 have BZ := z_
 have HB := h_
 have BH := x_
 clear z_ h_ x_
 have NE2 := ab.mk (show w2.heap.size ≠ w.heap.size by have := BZ.out.lt; omega)
 go_wp2_with fail
 have z_ := ab.mk (BZ.out.alloc (.cells #[.int .i64 h.mp, .bool false, .int .u8 0, .int .u8 0, .int .u8 0, .bool false] 32))
 have h_ := ab.mk (ac HB.out (.cells #[.int .i64 h.mp, .bool false, .int .u8 0, .int .u8 0, .int .u8 0, .bool false] 32))
 have x_ := ab.mk (aC w2 (.cells #[.int .i64 h.mp, .bool false, .int .u8 0, .int .u8 0, .int .u8 0, .bool false] 32))
 have BH_ := ab.mk (ah BH.out (.cells #[.int .i64 h.mp, .bool false, .int .u8 0, .int .u8 0, .int .u8 0, .bool false] 32))
 clear BZ HB BH
 have BZ := z_
 have HB := h_
 have BM := x_
 clear z_ h_ x_
 have BH := BH_
 clear BH_
 generalize w2.alloc (.cells #[.int .i64 h.mp, .bool false, .int .u8 0, .int .u8 0, .int .u8 0, .bool false] 32) = W3 at BZ HB BM BH ⊢
 refine start_ (n := 9) (S := fun w' => w'.cell? ⟨w1.heap.size, 0, none⟩ = some (.string h.t) ∧ w'.cell? ⟨w1.heap.size, 1, none⟩ = some (.int .u8 h.kd) ∧ w'.cell? ⟨w1.heap.size, 2, none⟩ = some (.int .i64 h.mp) ∧ w'.cell? ⟨w1.heap.size, 3, none⟩ = some (.bool h.rm) ∧ w'.cell? ⟨w1.heap.size, 4, none⟩ = some (.bool h.bt) ∧ w'.cell? ⟨w1.heap.size, 5, none⟩ = some (.bool h.ck) ∧ w'.cell? ⟨w1.heap.size, 6, none⟩ = some (.int .i64 h.bk) ∧ w'.cell? ⟨w1.heap.size, 7, none⟩ = some (.int .i64 h.sz) ∧ w'.cell? ⟨w1.heap.size, 8, none⟩ = some (.int .u8 h.sm) ∧ w'.cell? ⟨w1.heap.size, 9, none⟩ = some (.int .u16 h.wh) ∧ w'.cell? ⟨w2.heap.size, 0, none⟩ = some (.int .i64 h.mp) ∧ w'.cell? ⟨w2.heap.size, 1, none⟩ = some (.bool false) ∧ w'.cell? ⟨w2.heap.size, 2, none⟩ = some (.int .u8 0) ∧ w'.cell? ⟨w2.heap.size, 3, none⟩ = some (.int .u8 0) ∧ w'.cell? ⟨w2.heap.size, 4, none⟩ = some (.int .u8 0) ∧ w'.cell? ⟨w2.heap.size, 5, none⟩ = some (.bool false)) (ds := []) #[false, false, false, false, false, false, false, false, false] (by kernel_rfl) rfl rfl ⟨(aa (ap BH.out) 0).trans rfl, (aa (ap BH.out) 1).trans rfl, (aa (ap BH.out) 2).trans rfl, (aa (ap BH.out) 3).trans rfl, (aa (ap BH.out) 4).trans rfl, (aa (ap BH.out) 5).trans rfl, (aa (ap BH.out) 6).trans rfl, (aa (ap BH.out) 7).trans rfl, (aa (ap BH.out) 8).trans rfl, (aa (ap BH.out) 9).trans rfl, (aa (ap BM.out) 0).trans rfl, (aa (ap BM.out) 1).trans rfl, (aa (ap BM.out) 2).trans rfl, (aa (ap BM.out) 3).trans rfl, (aa (ap BM.out) 4).trans rfl, (aa (ap BM.out) 5).trans rfl⟩ (fun hHeld => ?_)
 refine with_tabW rnew5.tab rnew5.bits (fun HT_ HW_ => ?_)
 have z_ := ab.mk BZ.out.drew
 have h_ := ab.mk (aj HB.out)
 have x_ := ab.mk (ap BH.out)
 have m_ := ab.mk (ap BM.out)
 clear BZ HB BH BM
 have BZ := z_
 have HB := h_
 have BH := x_
 have BM := m_
 clear z_ h_ x_ m_
 generalize W3.drew = W4 at BZ HB BH BM hHeld ⊢
 refine bn (i := 1) (N := some 24) (v := ?_) (a' := ?_) #[false, true, false, false, false, false, false, false, false] rfl rfl (ba HT_.out (by kernel_rfl)) (fun _ _ _ h => h) (Or.inl ⟨by rfl, ?_⟩) ?_ ?_
 rotate_left
 ·intro w'
  go_simp
  with_reducible rfl
 rotate_left
 ·simp only [Act.put, List.setIfInBounds_toArray, List.set_cons_zero, List.set_cons_succ, aQ, aT]
  rfl
 refine bn (i := 2) (N := some 25) (v := ?_) (a' := ?_) #[false, true, true, false, false, false, false, false, false] rfl rfl (ba HT_.out (by kernel_rfl)) (fun _ _ _ h => h) (Or.inl ⟨by rfl, ?_⟩) ?_ ?_
 rotate_left
 ·intro w'
  go_simp
  with_reducible rfl
 rotate_left
 ·simp only [Act.put, List.setIfInBounds_toArray, List.set_cons_zero, List.set_cons_succ, aQ, aT]
  rfl
 refine bT (i := 0) (N := some 23) (v := ?_) (a' := ?_) #[true, true, true, false, false, false, false, false, false] rfl rfl (bg HT_.out HW_.out (by kernel_rfl)) (fun _ _ _ h => h) (Or.inl ⟨by rfl, ?_⟩) hHeld ?_ ?_
 rotate_left
 ·rintro w' ⟨s0, s1, s2, s3, s4, s5, s6, s7, s8, s9, s10, s11, s12, s13, s14, s15⟩
  go_simp
  with_reducible rfl
 rotate_left
 ·simp only [Act.put, List.setIfInBounds_toArray, List.set_cons_zero, List.set_cons_succ, aQ, aT]
  rfl
 refine bT (i := 3) (N := some 26) (v := ?_) (a' := ?_) #[true, true, true, true, false, false, false, false, false] rfl rfl (bg HT_.out HW_.out (by kernel_rfl)) (fun _ _ _ h => h) (Or.inl ⟨by rfl, ?_⟩) hHeld ?_ ?_
 rotate_left
 ·rintro w' ⟨s0, s1, s2, s3, s4, s5, s6, s7, s8, s9, s10, s11, s12, s13, s14, s15⟩
  go_simp
  with_reducible rfl
 rotate_left
 ·simp only [Act.put, List.setIfInBounds_toArray, List.set_cons_zero, List.set_cons_succ, aQ, aT]
  rfl
 refine bT (i := 5) (N := some 28) (v := ?_) (a' := ?_) #[true, true, true, true, false, true, false, false, false] rfl rfl (bg HT_.out HW_.out (by kernel_rfl)) (fun _ _ _ h => h) (Or.inl ⟨by rfl, ?_⟩) hHeld ?_ ?_
 rotate_left
 ·rintro w' ⟨s0, s1, s2, s3, s4, s5, s6, s7, s8, s9, s10, s11, s12, s13, s14, s15⟩
  go_simp
  with_reducible rfl
 rotate_left
 ·simp only [Act.put, List.setIfInBounds_toArray, List.set_cons_zero, List.set_cons_succ, aQ, aT]
  rfl
 refine one_ (i := 4) (N := some 27) #[true, true, true, true, true, true, false, false, false] rfl rfl (one_of HT_.out (by kernel_rfl)) (by decide) (fun K hK => ?_)
 refine event_step (v := .slice (some ⟨W4.heap.size, 0, none⟩) h.sz.toNat h.sz.toNat) (w1 := W4.alloc (.cells ((List.replicate h.sz.toNat (0 : Int)).map (Value.int .u8)).toArray 5)) (by rfl) (by have q := HMK.out W4; go_simp) ?_
 have NZ := ab.mk BZ.out.lt
 have N1 := ab.mk (aZ BH.out)
 have N2 := ab.mk (aZ BM.out)
 have x_ := ab.mk (show RowL (W4.alloc (.cells ((List.replicate h.sz.toNat (0 : Int)).map (Value.int .u8)).toArray 5)) W4.heap.size (List.replicate h.sz.toNat 0) from aC W4 (.cells ((List.replicate h.sz.toNat (0 : Int)).map (Value.int .u8)).toArray 5))
 have z_ := ab.mk (BZ.out.alloc (.cells ((List.replicate h.sz.toNat (0 : Int)).map (Value.int .u8)).toArray 5))
 have h_ := ab.mk (ac HB.out (.cells ((List.replicate h.sz.toNat (0 : Int)).map (Value.int .u8)).toArray 5))
 have a_ := ab.mk (ah BH.out (.cells ((List.replicate h.sz.toNat (0 : Int)).map (Value.int .u8)).toArray 5))
 have m_ := ab.mk (ah BM.out (.cells ((List.replicate h.sz.toNat (0 : Int)).map (Value.int .u8)).toArray 5))
 clear BZ HB BH BM hHeld
 have BZ := z_
 have HB := h_
 have BH := a_
 have BM := m_
 have BR := x_
 clear z_ h_ a_ m_ x_
 generalize W4.alloc (.cells ((List.replicate h.sz.toNat (0 : Int)).map (Value.int .u8)).toArray 5) = W5 at BZ HB BH BM BR ⊢
 refine hK.out _ _ ⟨(aa BH.out 0).trans rfl, (aa BH.out 1).trans rfl, (aa BH.out 2).trans rfl, (aa BH.out 3).trans rfl, (aa BH.out 4).trans rfl, (aa BH.out 5).trans rfl, (aa BH.out 6).trans rfl, (aa BH.out 7).trans rfl, (aa BH.out 8).trans rfl, (aa BH.out 9).trans rfl, (aa BM.out 0).trans rfl, (aa BM.out 1).trans rfl, (aa BM.out 2).trans rfl, (aa BM.out 3).trans rfl, (aa BM.out 4).trans rfl, (aa BM.out 5).trans rfl⟩ (fun hHeld => ?_)
 clear hK K
 refine norm_ (a' := ?_) ?_ ?_
 rotate_left
 ·show Act.put _ (some 27) _ = _
  simp only [Act.put, List.setIfInBounds_toArray, List.set_cons_zero, List.set_cons_succ, aQ, aT]
  rfl
 refine bn (i := 6) (N := some 29) (v := ?_) (a' := ?_) #[true, true, true, true, true, true, true, false, false] rfl rfl (ba HT_.out (by kernel_rfl)) (fun _ _ _ h => h) (Or.inl ⟨by rfl, ?_⟩) ?_ ?_
 rotate_left
 ·intro w'
  go_simp
  with_reducible rfl
 rotate_left
 ·simp only [Act.put, List.setIfInBounds_toArray, List.set_cons_zero, List.set_cons_succ, aQ, aT]
  rfl
 refine one_ (i := 7) (N := none) #[true, true, true, true, true, true, true, true, false] rfl rfl (one_of HT_.out (by kernel_rfl)) (by decide) (fun K hK => ?_)
 have hne1 := NE1.out
 have hne2 := NE2.out
 have y0 := ab.mk (BZ.out.fillZ [.bool true, .string h.t, .int .u8 h.kd, .int .i64 h.mp, .bool h.rm, .bool h.bt, .bool h.ck, .int .i64 h.bk, .int .i64 h.sz, .int .u8 h.sm, .int .u16 h.wh, .slice A l.length c, .slice (some ⟨W4.heap.size, 0, none⟩) h.sz.toNat h.sz.toNat, .int .i64 h.mp, .bool false, .int .u8 0, .int .u8 0, .int .u8 0, .bool false, .int .u8 0, .int .u8 0, .int .u8 0, .int .u16 0, .bool false, .bool false, .int .u8 0, .int .u8 0, .int .u8 0, .int .u16 0, .bool false, .bool false, .int .u8 255] rfl)
 have y1 := ab.mk (ay HB.out w.heap.size 0 (Nat.le_refl _) [.bool true, .string h.t, .int .u8 h.kd, .int .i64 h.mp, .bool h.rm, .bool h.bt, .bool h.ck, .int .i64 h.bk, .int .i64 h.sz, .int .u8 h.sm, .int .u16 h.wh, .slice A l.length c, .slice (some ⟨W4.heap.size, 0, none⟩) h.sz.toNat h.sz.toNat, .int .i64 h.mp, .bool false, .int .u8 0, .int .u8 0, .int .u8 0, .bool false, .int .u8 0, .int .u8 0, .int .u8 0, .int .u16 0, .bool false, .bool false, .int .u8 0, .int .u8 0, .int .u8 0, .int .u16 0, .bool false, .bool false, .int .u8 255])
 have a_ := ab.mk (blk_setFar BH.out hne1 0 [.bool true, .string h.t, .int .u8 h.kd, .int .i64 h.mp, .bool h.rm, .bool h.bt, .bool h.ck, .int .i64 h.bk, .int .i64 h.sz, .int .u8 h.sm, .int .u16 h.wh, .slice A l.length c, .slice (some ⟨W4.heap.size, 0, none⟩) h.sz.toNat h.sz.toNat, .int .i64 h.mp, .bool false, .int .u8 0, .int .u8 0, .int .u8 0, .bool false, .int .u8 0, .int .u8 0, .int .u8 0, .int .u16 0, .bool false, .bool false, .int .u8 0, .int .u8 0, .int .u8 0, .int .u16 0, .bool false, .bool false, .int .u8 255])
 have m_ := ab.mk (blk_setFar BM.out hne2 0 [.bool true, .string h.t, .int .u8 h.kd, .int .i64 h.mp, .bool h.rm, .bool h.bt, .bool h.ck, .int .i64 h.bk, .int .i64 h.sz, .int .u8 h.sm, .int .u16 h.wh, .slice A l.length c, .slice (some ⟨W4.heap.size, 0, none⟩) h.sz.toNat h.sz.toNat, .int .i64 h.mp, .bool false, .int .u8 0, .int .u8 0, .int .u8 0, .bool false, .int .u8 0, .int .u8 0, .int .u8 0, .int .u16 0, .bool false, .bool false, .int .u8 0, .int .u8 0, .int .u8 0, .int .u16 0, .bool false, .bool false, .int .u8 255])
 have r_ := ab.mk (RowL.head (show RowL (W5.setCells w.heap.size 0 [.bool true, .string h.t, .int .u8 h.kd, .int .i64 h.mp, .bool h.rm, .bool h.bt, .bool h.ck, .int .i64 h.bk, .int .i64 h.sz, .int .u8 h.sm, .int .u16 h.wh, .slice A l.length c, .slice (some ⟨W4.heap.size, 0, none⟩) h.sz.toNat h.sz.toNat, .int .i64 h.mp, .bool false, .int .u8 0, .int .u8 0, .int .u8 0, .bool false, .int .u8 0, .int .u8 0, .int .u8 0, .int .u16 0, .bool false, .bool false, .int .u8 0, .int .u8 0, .int .u8 0, .int .u16 0, .bool false, .bool false, .int .u8 255]) W4.heap.size (List.replicate h.sz.toNat 0) from blk_setFar BR.out (by have := NZ.out; omega) 0 [.bool true, .string h.t, .int .u8 h.kd, .int .i64 h.mp, .bool h.rm, .bool h.bt, .bool h.ck, .int .i64 h.bk, .int .i64 h.sz, .int .u8 h.sm, .int .u16 h.wh, .slice A l.length c, .slice (some ⟨W4.heap.size, 0, none⟩) h.sz.toNat h.sz.toNat, .int .i64 h.mp, .bool false, .int .u8 0, .int .u8 0, .int .u8 0, .bool false, .int .u8 0, .int .u8 0, .int .u8 0, .int .u16 0, .bool false, .bool false, .int .u8 0, .int .u8 0, .int .u8 0, .int .u16 0, .bool false, .bool false, .int .u8 255]))
 rw [if_pos (by rfl)]
 refine wp_store_mid 36 (.tmp 2) (.tmp 29) rfl w.heap.size 0 (List.toArray [.bool true, .string h.t, .int .u8 h.kd, .int .i64 h.mp, .bool h.rm, .bool h.bt, .bool h.ck, .int .i64 h.bk, .int .i64 h.sz, .int .u8 h.sm, .int .u16 h.wh, .slice A l.length c, .slice (some ⟨W4.heap.size, 0, none⟩) h.sz.toNat h.sz.toNat, .int .i64 h.mp, .bool false, .int .u8 0, .int .u8 0, .int .u8 0, .bool false, .int .u8 0, .int .u8 0, .int .u8 0, .int .u16 0, .bool false, .bool false, .int .u8 0, .int .u8 0, .int .u8 0, .int .u16 0, .bool false, .bool false, .int .u8 255]) rfl rfl BZ.out.there (by kernel_rfl) (by simp [Value.oneCell']) ?_
 clear BZ HB BH BM BR hHeld
 have BH := a_
 have BM := m_
 clear a_ m_
 generalize World.setCells W5 w.heap.size 0 _ = Y at y0 y1 r_ BH BM ⊢
 refine hK.out _ _ ⟨(aa BH.out 0).trans rfl, (aa BH.out 1).trans rfl, (aa BH.out 2).trans rfl, (aa BH.out 3).trans rfl, (aa BH.out 4).trans rfl, (aa BH.out 5).trans rfl, (aa BH.out 6).trans rfl, (aa BH.out 7).trans rfl, (aa BH.out 8).trans rfl, (aa BH.out 9).trans rfl, (aa BM.out 0).trans rfl, (aa BM.out 1).trans rfl, (aa BM.out 2).trans rfl, (aa BM.out 3).trans rfl, (aa BM.out 4).trans rfl, (aa BM.out 5).trans rfl⟩ (fun hHeld => ?_)
 clear hK K
 refine norm_ (a' := ?_) ?_ ?_
 rotate_left
 ·show Act.put _ none _ = _
  simp only [Act.put, List.setIfInBounds_toArray, List.set_cons_zero, List.set_cons_succ, aQ, aT]
  rfl
 refine bn (i := 8) (N := some 3) (v := ?_) (a' := ?_) #[true, true, true, true, true, true, true, true, true] rfl rfl (ba HT_.out (by kernel_rfl)) (fun _ _ _ h => h) (Or.inl ⟨by rfl, ?_⟩) ?_ ?_
 rotate_left
 ·intro w'
  go_simp
  with_reducible rfl
 rotate_left
 ·simp only [Act.put, List.setIfInBounds_toArray, List.set_cons_zero, List.set_cons_succ, aQ, aT]
  rfl
 refine done_ (done_of HT_.out (by kernel_rfl)) ?_
 go_wp2
 refine bodyPost_ret (bq rfl _ _ _ _ _ _ _ rfl y0.out rfl rfl (by kernel_rfl)) rfl ⟨W4.heap.size, by simp [Ct.new], r_.out, by have := NZ.out; omega, y1.out⟩
end Go.Proofs.Ytmjjojbedllmgaa.Hand
section
namespace Go.Proofs.Ytmjjojbedllmgaa.Hand
open Go.Proofs.Ytmjjojbedllmgaa.Pure
structure RefAt (w : World) (B : Nat) (r : Rt) : Prop where
 img : Kd.C (Kd.int .u8) w r.Ai r.s.img.length r.s.img
 ci : r.s.img.length ≤ r.ci
 ram : Held w B r.Ar r.cr r.s.ram
def Off (A : Option Addr) (b : Nat) : Prop := ∀ g, A = some ⟨g, 0, none⟩ → g ≠ b
theorem Held.off {w : World} {B : Nat} {A : Option Addr} {c : Nat} {l : List Int} (h : Held w B A c l) (b : Nat) (hb : b < B) : Off A b := by
 rintro g rfl
 rcases h.2.2 with ⟨q, _⟩ | ⟨g', q, hg, _⟩
 ·cases q
 ·cases q
  omega
theorem RefAt.upto {w w' : World} {B : Nat} {r : Rt} {S : Nat → Prop} (h : RefAt w B r) (hi : Kd.C (Kd.int .u8) w' r.Ai r.s.img.length r.s.img) (u : Upto S w w') (hS : ∀ k, S k → k < B) : RefAt w' B r := ⟨hi, h.ci, h.ram.upto u hS⟩
theorem RefAt.below {w w' : World} {B : Nat} {r : Rt} (h : RefAt w B r) (hb : Below w.heap.size w w') : RefAt w' B r := ⟨Kd.C_below h.img hb, h.ci, h.ram.below hb⟩
theorem RefAt.rt {w : World} {B : Nat} {r : Rt} (h : RefAt w B r) : RtAt w r := ⟨h.img, h.ci, h.ram.C, h.ram.1⟩
theorem regN_nn {s : Ct} (ok : s.Ok) (ad : Int) : 0 ≤ s.regN ad := by
 have h := reg_of ok ad
 unfold Ct.reg at h
 split at h
 ·unfold bZ.f bK.f at h
  simp only [Option.bind_some] at h
  have r0 := ok.m.r0
  split at h
  ·split at h
   ·split at h
    ·split at h
     ·simp at h; omega
     ·split at h
      ·simp at h; omega
      ·have e := Option.some.inj h
       rw [← e, IntWalk.wrap64_in _ (by have := ok.m.r1; omega)]
       omega
    ·simp at h; omega
   ·simp at h; omega
  ·simp at h; omega
 ·simp at h; omega
theorem rreg_at (s : Ct) (Ai : Option Addr) (ci : Nat) (Ar : Option Addr) (cr : Nat) (ok : s.Ok) (ad : Int) (ha : 0 ≤ ad ∧ ad ≤ 65535) : Puts 38 #[(⟨s, Ai, ci, Ar, cr⟩ : Rt).v, .int .u16 ad] (.int .i64 (s.regN ad)) := by
 have h := reg_of ok ad
 unfold Ct.reg at h
 cases hck : s.hdr.ck
 case false =>
  rw [hck, if_neg (by decide)] at h
  rw [← Option.some.inj h]
  exact rreg_no (⟨s, Ai, ci, Ar, cr⟩ : Rt) ad hck
 case true =>
  rw [hck, if_pos rfl] at h
  exact rreg_yes (⟨s, Ai, ci, Ar, cr⟩ : Rt) ad _ hck (rmap_reg ad ha _ h)
theorem rread_at {w : World} {B : Nat} (s : Ct) (Ai : Option Addr) (ci : Nat) (Ar : Option Addr) (cr : Nat) (h : RefAt w B (⟨s, Ai, ci, Ar, cr⟩ : Rt)) (ok : s.Ok) (nm : Nm s) (ad : Int) (ha : 0 ≤ ad ∧ ad ≤ 65535) :
  Calls Try.prog 14 #[(⟨s, Ai, ci, Ar, cr⟩ : Rt).v, .int .u16 ad] w fun e w' => e = .returned (.int .u8 (s.read ad)) ∧ Below w.heap.size w w' := by
 unfold Ct.read
 by_cases hlo : ad < 32768
 ·rw [if_pos hlo]
  obtain ⟨_, h2, h3⟩ := rom_lo ok ad ha hlo
  exact rread_rom s Ai ci Ar cr ad _ (decide_eq_true hlo) h2 h3 w h.rt (rmap_rom ok ad ha hlo)
 rw [if_neg hlo]
 have hr := rreg_at s Ai ci Ar cr ok ad ha
 have hn := regN_nn ok ad
 by_cases hm : s.regN ad > 0
 ·rw [if_pos hm]
  exact rread_reg s Ai ci Ar cr ad _ _ _ (decide_eq_false hlo) (beq_eq_false_iff_ne.mpr (by omega)) hr (rclk_read s.hd nm.hd _) w
 rw [if_neg hm]
 rw [show s.regN ad = 0 by omega] at hr
 have hat := rmap_ram s ad ha
 by_cases h0 : s.at ad ≥ 0
 ·rw [if_pos h0]
  exact rread_ram s Ai ci Ar cr ad _ (decide_eq_false hlo) (decide_eq_false (by omega)) (at_lt ok ad ha h0) hr hat w h.rt
 ·rw [if_neg h0]
  exact rread_no s Ai ci Ar cr ad _ (decide_eq_false hlo) (decide_eq_true (by omega)) hr hat w h.rt
def RAns (w0 : World) (B : Nat) (Ai : Option Addr) (ci : Nat) (Ar : Option Addr) (s' : Ct) (e : Ending) (w' : World) : Prop := ∃ A c, e = .returned (⟨s', Ai, ci, A, c⟩ : Rt).v ∧ RefAt w' B ⟨s', Ai, ci, A, c⟩ ∧ (A = Ar ∨ ∀ b, b < w0.heap.size → Off A b) ∧ Below w0.heap.size w0 w'
theorem RAns.same {w : World} {B : Nat} {Ai : Option Addr} {ci : Nat} {Ar : Option Addr} {cr : Nat} {s s' : Ct} {e : Ending} {w' : World} (h : RefAt w B (⟨s, Ai, ci, Ar, cr⟩ : Rt)) (q : e = .returned (⟨s', Ai, ci, Ar, cr⟩ : Rt).v ∧ Below w.heap.size w w') (hi : s'.img = s.img) (hr : s'.ram = s.ram) : RAns w B Ai ci Ar s' e w' := by
 obtain ⟨he, hb⟩ := q
 have k := h.below hb
 refine ⟨Ar, cr, he, ⟨?_, ?_, ?_⟩, Or.inl rfl, hb⟩
 ·show Kd.C (Kd.int .u8) w' Ai s'.img.length s'.img
  rw [hi]; exact k.img
 ·show s'.img.length ≤ ci
  rw [hi]; exact k.ci
 ·show Held w' B Ar cr s'.ram
  rw [hr]; exact k.ram
theorem rwrite_at {w : World} {B : Nat} (s : Ct) (Ai : Option Addr) (ci : Nat) (Ar : Option Addr) (cr : Nat) (h : RefAt w B (⟨s, Ai, ci, Ar, cr⟩ : Rt)) (hB : B ≤ w.heap.size) (ok : s.Ok) (nm : Nm s) (ad v : Int) (ha : 0 ≤ ad ∧ ad ≤ 65535) (hv : 0 ≤ v ∧ v ≤ 255) :
  Calls Try.prog 19 #[(⟨s, Ai, ci, Ar, cr⟩ : Rt).v, .int .u16 ad, .int .u8 v] w (RAns w B Ai ci Ar (s.write ad v)) := by
 have hw := rmap_write s ad v ha hv
 unfold Ct.write
 by_cases hlo : ad < 32768
 ·rw [if_pos hlo]
  have dl := decide_eq_true hlo
  cases hck : s.hdr.ck with
  | false =>
   rw [if_neg (fun q => by simp at q)]
   exact (rwrite_lo s Ai ci Ar cr ad v _ dl hck hw w).mono fun e w' q => RAns.same h q rfl rfl
  | true =>
   by_cases hb : ad ≥ 24576
   ·rw [if_pos ⟨rfl, hb⟩]
    have dh : decide (24576 ≤ ad) = true := decide_eq_true hb
    unfold Ct.latch
    by_cases hv1 : v = 1
    ·subst hv1
     by_cases hl : s.last = 0
     ·rw [if_pos ⟨rfl, hl⟩]
      exact (rwrite_l2 s Ai ci Ar cr ad _ dl hck dh (beq_iff_eq.mpr hl) hw w).mono fun e w' q => RAns.same h q rfl rfl
     ·rw [if_neg (fun q => hl q.2)]
      exact (rwrite_l1 s Ai ci Ar cr ad _ dl hck dh (beq_eq_false_iff_ne.mpr hl) hw w).mono fun e w' q => RAns.same h q rfl rfl
    ·rw [if_neg (fun q => hv1 q.1)]
     exact (rwrite_l0 s Ai ci Ar cr ad v _ dl hck dh (beq_eq_false_iff_ne.mpr hv1) hw w).mono fun e w' q => RAns.same h q rfl rfl
   ·rw [if_neg (fun q => hb q.2)]
    exact (rwrite_lo2 s Ai ci Ar cr ad v _ dl hck (decide_eq_false hb) hw w).mono fun e w' q => RAns.same h q rfl rfl
 rw [if_neg hlo]
 have dl := decide_eq_false hlo
 have hr := rreg_at s Ai ci Ar cr ok ad ha
 have hn := regN_nn ok ad
 have hat := rmap_ram s ad ha
 rw [show (s.reg ad).getD 0 = s.regN ad from rfl]
 by_cases hm : s.regN ad > 0
 ·rw [if_pos hm]
  exact (rwrite_reg s Ai ci Ar cr ad v _ _ _ _ (beq_eq_false_iff_ne.mpr (by omega)) (rclk_write s.lv nm.lv _ v hv) dl hr hat w).mono fun e w' q => RAns.same h q rfl rfl
 rw [if_neg hm]
 rw [show s.regN ad = 0 by omega] at hr
 by_cases h0 : s.at ad ≥ 0
 ·rw [if_pos h0]
  refine (rwrite_ram s Ai ci Ar cr ad v _ dl hr hat (decide_eq_true h0) (at_lt ok ad ha h0) ok.r1 w h.ram.C).mono ?_
  rintro e w' ⟨A, c, he, hH, hb⟩
  exact ⟨A, c, he, ⟨Kd.C_below h.img hb, h.ci, hH.base hB⟩, Or.inr hH.off, hb⟩
 ·rw [if_neg h0]
  exact (rwrite_no s Ai ci Ar cr ad v 0 _ (decide_eq_false (by omega)) dl hr hat w).mono fun e w' q => RAns.same h q rfl rfl
theorem rtick_at {w : World} {B : Nat} (s : Ct) (Ai : Option Addr) (ci : Nat) (Ar : Option Addr) (cr : Nat) (h : RefAt w B (⟨s, Ai, ci, Ar, cr⟩ : Rt)) (nm : Nm s) :
  Calls Try.prog 21 #[(⟨s, Ai, ci, Ar, cr⟩ : Rt).v] w (RAns w B Ai ci Ar s.tick) := by
 unfold Ct.tick
 cases hck : s.hdr.ck with
 | false =>
  rw [if_neg (by simp)]
  exact (rtick_no s Ai ci Ar cr hck w).mono fun e w' q => RAns.same h q rfl rfl
 | true =>
  rw [if_pos rfl]
  exact (rtick_yes s Ai ci Ar cr _ hck (rclk_tick s.lv nm.lv) w).mono fun e w' q => RAns.same h q rfl rfl
theorem rsave_at {w : World} {B : Nat} (s : Ct) (Ai : Option Addr) (ci : Nat) (Ar : Option Addr) (cr : Nat) (h : RefAt w B (⟨s, Ai, ci, Ar, cr⟩ : Rt)) (ok : s.Ok) (nm : Nm s) :
  Calls Try.prog 23 #[(⟨s, Ai, ci, Ar, cr⟩ : Rt).v] w fun e w' => ∃ v0 : Value, e = .returned v0 ∧ Kd.R (Kd.int .u8) 5 w' w.heap.size (fun _ => True) v0 s.saveL ∧ Below w.heap.size w w' := by
 unfold Ct.saveL
 cases hbt : s.hdr.bt with
 | false =>
  rw [if_neg (by simp)]
  refine (rsave_no s Ai ci Ar cr hbt w).mono ?_
  rintro e w' ⟨rfl, hb⟩
  exact ⟨_, rfl, Kd.R_of_own ⟨by simp [encs], Or.inl ⟨rfl, rfl⟩⟩ (fun _ _ => trivial), hb⟩
 | true =>
  rw [if_pos rfl]
  cases hck : s.hdr.ck with
  | false =>
   rw [if_neg (by simp)]
   exact rsave_ram s Ai ci Ar cr hbt hck ok.r1 w h.ram.C
  | true =>
   rw [if_pos rfl]
   obtain ⟨h1, h2⟩ := bytesL_is s
   exact rsave_all s Ai ci Ar cr hbt hck _ (rclk_bytes s nm) (by omega) ok.r1 w h.ram.C
def LAns (w0 : World) (B : Nat) (Ai : Option Addr) (ci : Nat) (Ar : Option Addr) (s' : Ct) (x : Int) (e : Ending) (w' : World) : Prop := ∃ A c, e = .returned (.tuple #[(⟨s', Ai, ci, A, c⟩ : Rt).v, .int .i64 x]) ∧ RefAt w' B ⟨s', Ai, ci, A, c⟩ ∧ (A = Ar ∨ ∀ b, b < w0.heap.size → Off A b) ∧ Below w0.heap.size w0 w'
theorem LAns.same {w : World} {B : Nat} {Ai : Option Addr} {ci : Nat} {Ar : Option Addr} {cr : Nat} {s : Ct} (h : RefAt w B (⟨s, Ai, ci, Ar, cr⟩ : Rt)) (x : Int) {e : Ending} {w' : World} (q : e = .returned (.tuple #[(⟨s, Ai, ci, Ar, cr⟩ : Rt).v, .int .i64 x]) ∧ Below w.heap.size w w') : LAns w B Ai ci Ar s x e w' :=
 ⟨Ar, cr, q.1, h.below q.2, Or.inl rfl, q.2⟩
theorem rload_at {w : World} {B : Nat} (s : Ct) (Ai : Option Addr) (ci : Nat) (Ar : Option Addr) (cr : Nat) (h : RefAt w B (⟨s, Ai, ci, Ar, cr⟩ : Rt)) (hB : B ≤ w.heap.size) (ok : s.Ok) (nm : Nm s) (A : Option Addr) (c : Nat) (l : List Int) (hbl : Bytes l) (hr : Kd.C (Kd.int .u8) w A l.length l) (hc : l.length ≤ c) :
  Calls Try.prog 25 #[(⟨s, Ai, ci, Ar, cr⟩ : Rt).v, .slice A l.length c] w (LAns w B Ai ci Ar (s.loadS l) (s.loadE l)) := by
 have hs : ∀ w1 : World, Below w.heap.size w w1 → Calls Try.prog 23 #[(⟨s, Ai, ci, Ar, cr⟩ : Rt).v] w1 fun e w' => ∃ v0 : Value, e = .returned v0 ∧ Kd.R (Kd.int .u8) 5 w' w1.heap.size (fun _ => True) v0 s.saveL ∧ Below w1.heap.size w1 w' := fun w1 hb => rsave_at s Ai ci Ar cr (h.below hb) ok nm
 cases hbt : s.hdr.bt with
 | false =>
  have hE : s.loadE l = 7 := by simp [Ct.loadE, hbt]
  have hS : s.loadS l = s := by simp [Ct.loadS, hE]
  rw [hE, hS]
  exact (rload_none s Ai ci Ar cr _ hbt w).mono fun e w' q => LAns.same h 7 q
 | true =>
  have hsl := save_length s hbt
  cases hck : s.hdr.ck with
  | false =>
   rw [hck, if_neg (by decide)] at hsl
   by_cases hn : l.length = s.ram.length
   ·have hE : s.loadE l = 0 := by simp [Ct.loadE, hbt, hck, hn]
    have hS : s.loadS l = { s with ram := l } := by simp [Ct.loadS, hE, hck]
    rw [hE, hS]
    have hq : ((l.length : Int) == (s.saveL.length : Int)) = true := beq_iff_eq.mpr (by omega)
    cases A with
    | none =>
     refine (rload_ok1n s Ai ci Ar cr c l _ hbt hck hq ok.r1 hn hc w hr hs).mono ?_
     rintro e w' ⟨A', c', he, hH, hb⟩
     exact ⟨A', c', he, ⟨Kd.C_below h.img hb, h.ci, hH.base hB⟩, Or.inr hH.off, hb⟩
    | some ad =>
     refine (rload_ok1 s Ai ci Ar cr ad c l _ hbt hck hq ok.r1 hn hc w hr hs).mono ?_
     rintro e w' ⟨A', c', he, hH, hb⟩
     exact ⟨A', c', he, ⟨Kd.C_below h.img hb, h.ci, hH.base hB⟩, Or.inr hH.off, hb⟩
   ·have hE : s.loadE l = 5 := by simp [Ct.loadE, hbt, hck, hn]
    have hS : s.loadS l = s := by simp [Ct.loadS, hE]
    rw [hE, hS]
    exact (rload_size s Ai ci Ar cr A c l _ hbt (beq_eq_false_iff_ne.mpr (by omega)) w hs).mono fun e w' q => LAns.same h 5 q
  | true =>
   rw [hck, if_pos rfl] at hsl
   by_cases hn : l.length = s.ram.length + 10
   ·have hE : s.loadE l = ofE (l.drop s.ram.length) := by simp [Ct.loadE, hbt, hck, hn]
    have hq : ((l.length : Int) == (s.saveL.length : Int)) = true := beq_iff_eq.mpr (by omega)
    have hof := rclk_of (l.drop s.ram.length) (bytes_drop hbl _) (by simp; omega)
    by_cases he : ofE (l.drop s.ram.length) = 0
    ·have hS : s.loadS l = { s with lv := ofX (l.drop s.ram.length), hd := ofY (l.drop s.ram.length), ram := l.take s.ram.length } := by simp [Ct.loadS, hE, he, hck]
     rw [hE, hS, he]
     rw [he] at hof
     refine (rload_ok2 s Ai ci Ar cr A c l _ hbt hck _ _ 0 hq ok.r1 rfl _ rfl hn hc hof w hr hs).mono ?_
     rintro e w' ⟨A', c', he, hH, hb⟩
     exact ⟨A', c', he, ⟨Kd.C_below h.img hb, h.ci, hH.base hB⟩, Or.inr hH.off, hb⟩
    ·have hS : s.loadS l = s := by simp [Ct.loadS, hE, he]
     rw [hE, hS]
     exact (rload_text s Ai ci Ar cr A c l _ hbt hck _ _ _ hq ok.r1 (beq_eq_false_iff_ne.mpr he) hn hc hof w hr hs).mono fun e w' q => LAns.same h _ q
   ·have hE : s.loadE l = 5 := by simp [Ct.loadE, hbt, hck, hn]
    have hS : s.loadS l = s := by simp [Ct.loadS, hE]
    rw [hE, hS]
    exact (rload_size s Ai ci Ar cr A c l _ hbt (beq_eq_false_iff_ne.mpr (by omega)) w hs).mono fun e w' q => LAns.same h 5 q
theorem rnew_at (A : Option Addr) (c : Nat) (l : List Int) (w : World) (hr : Kd.C (Kd.int .u8) w A l.length l) (hc : l.length ≤ c) (hb : Bytes l) (he : headE l = 0) :
  Calls Try.prog 11 #[.slice A l.length c] w fun e' w' => ∃ A' c', e' = .returned (.tuple #[(⟨newC l, A, c, A', c'⟩ : Rt).v, .int .i64 0]) ∧ RefAt w' w.heap.size ⟨newC l, A, c, A', c'⟩ ∧ Below w.heap.size w w' := by
 obtain ⟨h1, h2, h3, h4, h5⟩ := head_ok hb he
 have hp : ∀ w1 : World, Below w.heap.size w w1 → Calls Try.prog 30 #[.slice A l.length c] w1 fun e' w' => e' = .returned (.tuple #[(bE l).v, .int .i64 0]) ∧ Below w1.heap.size w1 w' := by
  intro w1 hbw
  have q := rparse_at A c l hb w1 (Kd.C_below hr hbw) hc
  rw [he] at q
  exact q
 refine (rnew_ok A c l (bE l) w hp hr hc (rmap_new _ ?_) h4 (by omega)).mono ?_
 ·unfold co.f at h3
  by_cases k0 : (bE l).mp = 0
  ·exact Or.inl k0
  by_cases k1 : (bE l).mp = 1
  ·exact Or.inr (Or.inl k1)
  by_cases k3 : (bE l).mp = 3
  ·exact Or.inr (Or.inr (Or.inl k3))
  by_cases k5 : (bE l).mp = 5
  ·exact Or.inr (Or.inr (Or.inr k5))
  rw [if_neg k0, if_neg k1, if_neg k3, if_neg k5] at h3
  simp at h3
 rintro e w' ⟨g, he', hh, hg, hb'⟩
 exact ⟨some ⟨g, 0, none⟩, _, he', ⟨Kd.C_below hr hb', hc, by simp [newC, Ct.new], by simp [newC, Ct.new]; omega, Or.inr ⟨g, rfl, hg, hh⟩⟩, hb'⟩
theorem rnew_no (A : Option Addr) (c : Nat) (l : List Int) (w : World) (hr : Kd.C (Kd.int .u8) w A l.length l) (hc : l.length ≤ c) (hb : Bytes l) (he : ¬ headE l = 0) :
  Calls Try.prog 11 #[.slice A l.length c] w fun e' w' => e' = .returned (.tuple #[.agg #[.bool false, .string ⟨#[]⟩, .int .u8 0, .int .i64 0, .bool false, .bool false, .bool false, .int .i64 0, .int .i64 0, .int .u8 0, .int .u16 0, .slice none 0 0, .slice none 0 0, .int .i64 0, .bool false, .int .u8 0, .int .u8 0, .int .u8 0, .bool false, .int .u8 0, .int .u8 0, .int .u8 0, .int .u16 0, .bool false, .bool false, .int .u8 0, .int .u8 0, .int .u8 0, .int .u16 0, .bool false, .bool false, .int .u8 0], .int .i64 (headE l)]) ∧ Below w.heap.size w w' :=
 rnew_bad A c l (bE l) (headE l) (beq_eq_false_iff_ne.mpr he) w fun w1 hbw => rparse_at A c l hb w1 (Kd.C_below hr hbw) hc
end Go.Proofs.Ytmjjojbedllmgaa.Hand
end
section
namespace Go.Proofs.Ytmjjojbedllmgaa.Hand
open Go.Proofs.Ytmjjojbedllmgaa.Pure
theorem Bytes.set {l : List Int} (h : Bytes l) (i : Nat) (v : Int) (hv : 0 ≤ v ∧ v ≤ 255) : Bytes (l.set i v) := by
 intro x hx
 rcases List.mem_or_eq_of_mem_set hx with q | q
 ·exact h x q
 ·rw [q]; exact hv
theorem five_bytes (c : C) : Bytes (five c) := by
 intro x hx
 unfold five at hx
 have q := rdC_bd (nm c) (nm_ok c)
 simp only [List.mem_cons, List.not_mem_nil, or_false] at hx
 rcases hx with rfl | rfl | rfl | rfl | rfl <;> exact q _
theorem saveL_bytes {s : Ct} (nm : Nm s) (h : Bytes s.ram) : Bytes s.saveL := by
 unfold Ct.saveL
 split
 ·split
  ·rw [bytes_ct s nm]
   intro x hx
   rcases List.mem_append.1 hx with q | q
   ·exact h x q
   ·rcases List.mem_append.1 q with q | q
    ·exact five_bytes _ x q
    ·exact five_bytes _ x q
  ·exact h
 ·intro x hx; cases hx
theorem write_bytes {s : Ct} (h : Bytes s.ram) (ad v : Int) (hv : 0 ≤ v ∧ v ≤ 255) : Bytes (s.write ad v).ram := by
 unfold Ct.write
 split
 ·split
  ·rw [(latch_keeps _ _).2.1]; exact h
  ·exact h
 ·split
  ·exact h
  ·split
   ·exact h.set _ _ hv
   ·exact h
theorem load_bytes {s : Ct} (h : Bytes s.ram) {l : List Int} (hl : Bytes l) : Bytes (s.loadS l).ram := by
 unfold Ct.loadS
 split
 ·split
  ·exact fun x hx => hl x (List.mem_of_mem_take hx)
  ·exact hl
 ·exact h
structure Where (w0 : World) (a : Ad) (B gb : Nat) (A0 : Option Addr) (c0 : Nat) (l0 : List Int) : Prop where
 b : a.b < B
 gi : a.gi < B
 gr : a.gr < B
 gb : B ≤ gb
 b0 : w0.heap.size ≤ a.b
 gr0 : w0.heap.size ≤ a.gr
 im : Kd.C (Kd.int .u8) w0 A0 l0.length l0
 ic : l0.length ≤ c0
theorem Where.B0 {w0 : World} {a : Ad} {B gb : Nat} {A0 : Option Addr} {c0 : Nat} {l0 : List Int} (k : Where w0 a B gb A0 c0 l0) : w0.heap.size ≤ B := by have := k.b0; have := k.b; omega
structure Whole (l0 : List Int) (s : Ct) : Prop where
 ok : s.Ok
 nm : Nm s
 br : Bytes s.ram
 img : s.img = l0
theorem Whole.write {l0 : List Int} {s : Ct} (h : Whole l0 s) (ad v : Int) (hv : 0 ≤ v ∧ v ≤ 255) : Whole l0 (s.write ad v) := ⟨h.ok.write ad v hv, h.nm.write ad v hv, write_bytes h.br ad v hv, (write_keeps s ad v).1.trans h.img⟩
theorem Whole.tick {l0 : List Int} {s : Ct} (h : Whole l0 s) : Whole l0 s.tick := ⟨h.ok.tick, h.nm.tick, by rw [(tick_keeps s).2.1]; exact h.br, (tick_keeps s).1.trans h.img⟩
theorem Whole.load {l0 : List Int} {s : Ct} (h : Whole l0 s) {l : List Int} (hl : Bytes l) : Whole l0 (s.loadS l) := ⟨h.ok.load l, h.nm.load hl, load_bytes h.br hl, (load_keeps s l).1.trans h.img⟩
theorem Whole.new {l0 : List Int} (hb : Bytes l0) (he : headE l0 = 0) : Whole l0 (newC l0) := ⟨newC_ok hb he, Nm.new, by
 intro x hx
 have q : x ∈ List.replicate (bE l0).sz.toNat (0 : Int) := hx
 rw [(List.mem_replicate.1 q).2]
 omega, rfl⟩
structure Saved (w : World) (B gb : Nat) (A : Option Addr) (c : Nat) (l : List Int) : Prop where
 h : Held w B A c l
 off : Off A gb
 br : Bytes l
structure Pl (w0 : World) (a : Ad) (B gb : Nat) (A0 : Option Addr) (c0 : Nat) (l0 : List Int) (w : World) (s t : Ct) (Ar : Option Addr) (cr : Nat) : Prop where
 ca : ax w a s
 ra : RefAt w B ⟨t, A0, c0, Ar, cr⟩
 off : Off Ar gb
 hb : Below w0.heap.size w0 w
 lt : gb < w.heap.size
section
variable {w0 : World} {a : Ad} {B gb : Nat} {A0 : Option Addr} {c0 : Nat} {l0 : List Int} {w w' : World} {s t : Ct} {Ar : Option Addr} {cr : Nat}
theorem Pl.image (k : Where w0 a B gb A0 c0 l0) (hi : t.img = l0) {w : World} (hb : Below w0.heap.size w0 w) : Kd.C (Kd.int .u8) w A0 t.img.length t.img ∧ t.img.length ≤ c0 := by
 rw [hi]
 exact ⟨Kd.C_below k.im hb, k.ic⟩
theorem Pl.below (p : Pl w0 a B gb A0 c0 l0 w s t Ar cr) (hb : Below w.heap.size w w') : Pl w0 a B gb A0 c0 l0 w' s t Ar cr :=
 ⟨p.ca.below hb, p.ra.below hb, p.off, ak p.hb hb, Nat.lt_of_lt_of_le p.lt hb.size⟩
theorem Pl.cart (p : Pl w0 a B gb A0 c0 l0 w s t Ar cr) (k : Where w0 a B gb A0 c0 l0) (hi : t.img = l0) {s' : Ct} (h : ax w' a s') (u : Upto a.S w w') : Pl w0 a B gb A0 c0 l0 w' s' t Ar cr := by
 have hb := cx p.hb (Nat.le_refl _) u k.b0 k.gr0
 exact ⟨h, p.ra.upto (Pl.image k hi hb).1 u (by have := k.b; have := k.gr; rintro j (q | q) <;> omega), p.off, hb, Nat.lt_of_lt_of_le p.lt u.size⟩
theorem Pl.refd (p : Pl w0 a B gb A0 c0 l0 w s t Ar cr) {t' : Ct} {A : Option Addr} {c : Nat} (h : RefAt w' B ⟨t', A0, c0, A, c⟩) (ho : A = Ar ∨ ∀ b, b < w.heap.size → Off A b) (hb : Below w.heap.size w w') : Pl w0 a B gb A0 c0 l0 w' s t' A c := by
 refine ⟨p.ca.below hb, h, ?_, ak p.hb hb, Nat.lt_of_lt_of_le p.lt hb.size⟩
 rcases ho with rfl | q
 ·exact p.off
 ·exact q gb p.lt
theorem Held.setOff {A : Option Addr} {c : Nat} {l : List Int} (h : Held w B A c l) (g o : Nat) (vs : List Value) (ho : Off A g) : Held (w.setCells g o vs) B A c l := by
 obtain ⟨h1, h2, h3⟩ := h
 refine ⟨h1, h2, ?_⟩
 rcases h3 with h3 | ⟨g', e, hg, hh⟩
 ·exact Or.inl h3
 ·exact Or.inr ⟨g', e, hg, hh.of_block (cv vs o g' (ho g' e))⟩
theorem Pl.stored (p : Pl w0 a B gb A0 c0 l0 w s t Ar cr) (k : Where w0 a B gb A0 c0 l0) (hi : t.img = l0) (vs : List Value) : Pl w0 a B gb A0 c0 l0 (w.setCells gb 0 vs) s t Ar cr := by
 have hb := ay p.hb gb 0 (Nat.le_trans k.B0 k.gb) vs
 have e : (w.setCells gb 0 vs).heap.size = w.heap.size := (setCells_same gb vs 0 w).2.2.2
 obtain ⟨i1, i2⟩ := Pl.image (t := t) k hi hb
 refine ⟨p.ca.kept (cB w gb 0 vs) ?_ ?_ ?_, ⟨i1, i2, p.ra.ram.setOff gb 0 vs p.off⟩, p.off, hb, by rw [e]; exact p.lt⟩
 ·have := k.b; have := k.gb; omega
 ·have := k.gi; have := k.gb; omega
 ·have := k.gr; have := k.gb; omega
theorem Saved.below {A : Option Addr} {c : Nat} {l : List Int} (h : Saved w B gb A c l) (hb : Below w.heap.size w w') : Saved w' B gb A c l := ⟨h.h.below hb, h.off, h.br⟩
theorem Saved.cart {A : Option Addr} {c : Nat} {l : List Int} (h : Saved w B gb A c l) (k : Where w0 a B gb A0 c0 l0) (u : Upto a.S w w') : Saved w' B gb A c l := ⟨h.h.upto u (by have := k.b; have := k.gr; rintro j (q | q) <;> omega), h.off, h.br⟩
theorem Saved.stored {A : Option Addr} {c : Nat} {l : List Int} (h : Saved w B gb A c l) (vs : List Value) : Saved (w.setCells gb 0 vs) B gb A c l := ⟨h.h.setOff gb 0 vs h.off, h.off, h.br⟩
theorem Saved.nil (w : World) (B gb : Nat) : Saved w B gb none 0 [] := ⟨⟨by simp, by simp, Or.inl ⟨rfl, rfl⟩⟩, (by intro g q; cases q), (by intro x hx; cases hx)⟩
theorem ao.cart {r : Rt} (h : ao w gb r) (k : Where w0 a B gb A0 c0 l0) (u : Upto a.S w w') : ao w' gb r := u.blk h (by have := k.b; have := k.gr; have := k.gb; rintro (q | q) <;> omega)
theorem ao.fill {r : Rt} (h : ao w gb r) (r' : Rt) : ao (w.setCells gb 0 r'.cells) gb r' := blk_setAll h r'.cells rfl
end
end Go.Proofs.Ytmjjojbedllmgaa.Hand
end
