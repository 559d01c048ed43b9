/- What the proof of the statement CartPlays stands on, part 9. (Packed by pack.py out of this session's texts.) -/
import Derived.Handy
import Derived.StillTailTactics
import Derived.Test.YtmjjojbedllmgaaQCartPlays0
import Derived.Test.YtmjjojbedllmgaaQCartPlays1
import Derived.Test.YtmjjojbedllmgaaQCartPlays2
import Derived.Test.YtmjjojbedllmgaaQCartPlays6
import Derived.Test.YtmjjojbedllmgaaQCartPlays8
set_option linter.unusedVariables false
set_option linter.unusedSimpArgs false
set_option maxRecDepth 100000
set_option maxHeartbeats 20000000
open Go.RowKit Go.Proofs.YtmjjojbedllmgaaW.PrintWords Go.Proofs.YtmjjojbedllmgaaW.PrintLast Go.Proofs.YtmjjojbedllmgaaW.PrintMore Go.Proofs.Ytmjjojbedllmgaa.G
namespace Go.Proofs.Ytmjjojbedllmgaa.Hand
theorem rp_short (A : Option Addr) (c : Nat) (l : List Int) (hl : ¬ 336 ≤ l.length) : Puts 30 #[.slice A l.length c] (.tuple #[.agg #[.string ⟨#[]⟩, .int .u8 0, .int .i64 0, .bool false, .bool false, .bool false, .int .i64 0, .int .i64 0, .int .u8 0, .int .u16 0], .int .i64 2]) := by
 intro w
 have hlt : decide ((l.length : Int) < 336) = true := by simp; omega
 have BZ := ab.mk (bR.new w [.string ⟨#[]⟩, .int .u8 0, .int .i64 0, .bool false, .bool false, .bool false, .int .i64 0, .int .i64 0, .int .u8 0, .int .u16 0] rfl)
 have HB := ab.mk (ac (Below.refl w.heap.size w) (.cells [.string ⟨#[]⟩, .int .u8 0, .int .i64 0, .bool false, .bool false, .bool false, .int .i64 0, .int .i64 0, .int .u8 0, .int .u16 0].toArray 30))
 go_enter Try.func30, Try.ntmps30
 go_wp2_with (first
  | ((with_reducible refine az (t := 30) (p := 2) (v := .tmp 15) rfl ?_); have y0 := ab.mk (BZ.out.fillZ [.string ⟨#[]⟩, .int .u8 0, .int .i64 0, .bool false, .bool false, .bool false, .int .i64 0, .int .i64 0, .int .u8 0, .int .u16 0] rfl); have y1 := ab.mk (ay HB.out w.heap.size 0 (Nat.le_refl _) [.string ⟨#[]⟩, .int .u8 0, .int .i64 0, .bool false, .bool false, .bool false, .int .i64 0, .int .i64 0, .int .u8 0, .int .u16 0]); refine wpList_store_mid rfl 30 (.tmp 2) (.tmp 15) rfl w.heap.size 0 (List.toArray [.string ⟨#[]⟩, .int .u8 0, .int .i64 0, .bool false, .bool false, .bool false, .int .i64 0, .int .i64 0, .int .u8 0, .int .u16 0]) rfl rfl BZ.out.there (by kernel_rfl) (by simp [Value.oneCell']) ?_; generalize World.setCells _ w.heap.size 0 _ = Y at y0 y1 ⊢; simp only [Act.put, List.setIfInBounds_toArray, List.set_cons_zero, List.set_cons_succ]))
 refine bodyPost_ret (bq rfl _ _ _ _ _ _ _ rfl y0.out rfl rfl (by kernel_rfl)) rfl ⟨rfl, y1.out⟩
theorem rp_kind (A : Option Addr) (c : Nat) (l : List Int) (hl : 336 ≤ l.length) (w : World) (hr : Kd.C (Kd.int .u8) w A l.length l) (hc : l.length ≤ c) (h0 : Hd) (hk : Puts 60 #[.int .u8 (rd l 327)] (.tuple #[.agg #[.string h0.t, .int .u8 h0.kd, .int .i64 h0.mp, .bool h0.rm, .bool h0.bt, .bool h0.ck, .int .i64 h0.bk, .int .i64 h0.sz, .int .u8 h0.sm, .int .u16 h0.wh], .bool false])) :
  Calls Try.prog 30 #[.slice A l.length c] w fun e' w' => e' = .returned (.tuple #[.agg #[.string ⟨#[]⟩, .int .u8 0, .int .i64 0, .bool false, .bool false, .bool false, .int .i64 0, .int .i64 0, .int .u8 0, .int .u16 0], .int .i64 4]) ∧ Below w.heap.size w w' := by
 obtain ⟨ad, rfl, _⟩ := Kd.at_int hr 327 (by omega) (by omega)
 have HR := ab.mk hr
 have BZ := ab.mk (bR.new w [.string ⟨#[]⟩, .int .u8 0, .int .i64 0, .bool false, .bool false, .bool false, .int .i64 0, .int .i64 0, .int .u8 0, .int .u16 0] rfl)
 have HB := ab.mk (ac (Below.refl w.heap.size w) (.cells [.string ⟨#[]⟩, .int .u8 0, .int .i64 0, .bool false, .bool false, .bool false, .int .i64 0, .int .i64 0, .int .u8 0, .int .u16 0].toArray 30))
 obtain ⟨a_327, e_327, c327⟩ := Kd.at_int (Kd.C_below HR.out HB.out) 327 (by omega) (by omega)
 obtain rfl := Option.some.inj e_327
 clear e_327
 replace c327 : (w.alloc (.cells #[.string ⟨#[]⟩, .int .u8 0, .int .i64 0, .bool false, .bool false, .bool false, .int .i64 0, .int .i64 0, .int .u8 0, .int .u16 0] 30)).cell? ⟨ad.block, ad.off + 327, none⟩ = some (.int .u8 (rd l 327)) := c327
 have hlt : decide ((l.length : Int) < 336) = false := by simp; omega
 have h327 : (327 : Int) < l.length := by omega
 have h327c : (327 : Int) < c := by omega
 have h328 : (328 : Int) < l.length := by omega
 have h329 : (329 : Int) < l.length := by omega
 have h333 : (333 : Int) < l.length := by omega
 have h328c : (328 : Int) < c := by omega
 have h329c : (329 : Int) < c := by omega
 have h333c : (333 : Int) < c := by omega
 have HK := ab.mk hk
 clear hr hk
 go_enter Try.func30, Try.ntmps30
 go_wp2_with fail
 refine (HK.out.run _).mono ?_
 rintro e' w1 ⟨rfl, hb⟩
 clear c327 hlt HK
 have BZ_ := ab.mk (BZ.out.below hb)
 have HB_ := ab.mk (ak HB.out hb)
 clear BZ HB hb
 have BZ := BZ_
 have HB := HB_
 clear BZ_ HB_
 have BH := ab.mk (HAt.new w1 h0)
 have z_ := ab.mk (BZ.out.alloc (.cells #[.string h0.t, .int .u8 h0.kd, .int .i64 h0.mp, .bool h0.rm, .bool h0.bt, .bool h0.ck, .int .i64 h0.bk, .int .i64 h0.sz, .int .u8 h0.sm, .int .u16 h0.wh] 30))
 have hb_ := ab.mk (ac HB.out (.cells #[.string h0.t, .int .u8 h0.kd, .int .i64 h0.mp, .bool h0.rm, .bool h0.bt, .bool h0.ck, .int .i64 h0.bk, .int .i64 h0.sz, .int .u8 h0.sm, .int .u16 h0.wh] 30))
 have NE := ab.mk (show w.heap.size < w1.heap.size from BZ.out.lt)
 clear BZ HB
 have BZ := z_
 have HB := hb_
 clear z_ hb_
 obtain ⟨a_328, e_328, c328⟩ := Kd.at_int (Kd.C_below HR.out HB.out) 328 (by omega) (by omega)
 obtain rfl := Option.some.inj e_328
 clear e_328
 replace c328 : (w1.alloc (.cells #[.string h0.t, .int .u8 h0.kd, .int .i64 h0.mp, .bool h0.rm, .bool h0.bt, .bool h0.ck, .int .i64 h0.bk, .int .i64 h0.sz, .int .u8 h0.sm, .int .u16 h0.wh] 30)).cell? ⟨ad.block, ad.off + 328, none⟩ = some (.int .u8 (rd l 328)) := c328
 obtain ⟨a_329, e_329, c329⟩ := Kd.at_int (Kd.C_below HR.out HB.out) 329 (by omega) (by omega)
 obtain rfl := Option.some.inj e_329
 clear e_329
 replace c329 : (w1.alloc (.cells #[.string h0.t, .int .u8 h0.kd, .int .i64 h0.mp, .bool h0.rm, .bool h0.bt, .bool h0.ck, .int .i64 h0.bk, .int .i64 h0.sz, .int .u8 h0.sm, .int .u16 h0.wh] 30)).cell? ⟨ad.block, ad.off + 329, none⟩ = some (.int .u8 (rd l 329)) := c329
 go_wp2_with (first
  | ((with_reducible refine az (t := 30) (p := 2) (v := .tmp 25) rfl ?_); have y0 := ab.mk (BZ.out.fillZ [.string ⟨#[]⟩, .int .u8 0, .int .i64 0, .bool false, .bool false, .bool false, .int .i64 0, .int .i64 0, .int .u8 0, .int .u16 0] rfl); have y1 := ab.mk (ay HB.out w.heap.size 0 (Nat.le_refl _) [.string ⟨#[]⟩, .int .u8 0, .int .i64 0, .bool false, .bool false, .bool false, .int .i64 0, .int .i64 0, .int .u8 0, .int .u16 0]); refine wpList_store_mid rfl 30 (.tmp 2) (.tmp 25) rfl w.heap.size 0 (List.toArray [.string ⟨#[]⟩, .int .u8 0, .int .i64 0, .bool false, .bool false, .bool false, .int .i64 0, .int .i64 0, .int .u8 0, .int .u16 0]) rfl rfl BZ.out.there (by kernel_rfl) (by simp [Value.oneCell']) ?_; generalize World.setCells _ w.heap.size 0 _ = Y at y0 y1 ⊢; simp only [Act.put, List.setIfInBounds_toArray, List.set_cons_zero, List.set_cons_succ]))
 refine bodyPost_ret (bq rfl _ _ _ _ _ _ _ rfl y0.out rfl rfl (by kernel_rfl)) rfl ⟨rfl, y1.out⟩
theorem rp_size_a (A : Option Addr) (c : Nat) (l : List Int) (hl : 336 ≤ l.length) (w : World) (hr : Kd.C (Kd.int .u8) w A l.length l) (hc : l.length ≤ c) (h0 : Hd) (hk : Puts 60 #[.int .u8 (rd l 327)] (.tuple #[.agg #[.string h0.t, .int .u8 h0.kd, .int .i64 h0.mp, .bool h0.rm, .bool h0.bt, .bool h0.ck, .int .i64 h0.bk, .int .i64 h0.sz, .int .u8 h0.sm, .int .u16 h0.wh], .bool true])) (h8 : decide (8 < rd l 328) = true) :
  Calls Try.prog 30 #[.slice A l.length c] w fun e' w' => e' = .returned (.tuple #[.agg #[.string ⟨#[]⟩, .int .u8 0, .int .i64 0, .bool false, .bool false, .bool false, .int .i64 0, .int .i64 0, .int .u8 0, .int .u16 0], .int .i64 5]) ∧ Below w.heap.size w w' := by
 obtain ⟨ad, rfl, _⟩ := Kd.at_int hr 327 (by omega) (by omega)
 have HR := ab.mk hr
 have BZ := ab.mk (bR.new w [.string ⟨#[]⟩, .int .u8 0, .int .i64 0, .bool false, .bool false, .bool false, .int .i64 0, .int .i64 0, .int .u8 0, .int .u16 0] rfl)
 have HB := ab.mk (ac (Below.refl w.heap.size w) (.cells [.string ⟨#[]⟩, .int .u8 0, .int .i64 0, .bool false, .bool false, .bool false, .int .i64 0, .int .i64 0, .int .u8 0, .int .u16 0].toArray 30))
 obtain ⟨a_327, e_327, c327⟩ := Kd.at_int (Kd.C_below HR.out HB.out) 327 (by omega) (by omega)
 obtain rfl := Option.some.inj e_327
 clear e_327
 replace c327 : (w.alloc (.cells #[.string ⟨#[]⟩, .int .u8 0, .int .i64 0, .bool false, .bool false, .bool false, .int .i64 0, .int .i64 0, .int .u8 0, .int .u16 0] 30)).cell? ⟨ad.block, ad.off + 327, none⟩ = some (.int .u8 (rd l 327)) := c327
 have hlt : decide ((l.length : Int) < 336) = false := by simp; omega
 have h327 : (327 : Int) < l.length := by omega
 have h327c : (327 : Int) < c := by omega
 have h328 : (328 : Int) < l.length := by omega
 have h329 : (329 : Int) < l.length := by omega
 have h333 : (333 : Int) < l.length := by omega
 have h328c : (328 : Int) < c := by omega
 have h329c : (329 : Int) < c := by omega
 have h333c : (333 : Int) < c := by omega
 have HK := ab.mk hk
 clear hr hk
 go_enter Try.func30, Try.ntmps30
 go_wp2_with fail
 refine (HK.out.run _).mono ?_
 rintro e' w1 ⟨rfl, hb⟩
 clear c327 hlt HK
 have BZ_ := ab.mk (BZ.out.below hb)
 have HB_ := ab.mk (ak HB.out hb)
 clear BZ HB hb
 have BZ := BZ_
 have HB := HB_
 clear BZ_ HB_
 have BH := ab.mk (HAt.new w1 h0)
 have z_ := ab.mk (BZ.out.alloc (.cells #[.string h0.t, .int .u8 h0.kd, .int .i64 h0.mp, .bool h0.rm, .bool h0.bt, .bool h0.ck, .int .i64 h0.bk, .int .i64 h0.sz, .int .u8 h0.sm, .int .u16 h0.wh] 30))
 have hb_ := ab.mk (ac HB.out (.cells #[.string h0.t, .int .u8 h0.kd, .int .i64 h0.mp, .bool h0.rm, .bool h0.bt, .bool h0.ck, .int .i64 h0.bk, .int .i64 h0.sz, .int .u8 h0.sm, .int .u16 h0.wh] 30))
 have NE := ab.mk (show w.heap.size < w1.heap.size from BZ.out.lt)
 clear BZ HB
 have BZ := z_
 have HB := hb_
 clear z_ hb_
 obtain ⟨a_328, e_328, c328⟩ := Kd.at_int (Kd.C_below HR.out HB.out) 328 (by omega) (by omega)
 obtain rfl := Option.some.inj e_328
 clear e_328
 replace c328 : (w1.alloc (.cells #[.string h0.t, .int .u8 h0.kd, .int .i64 h0.mp, .bool h0.rm, .bool h0.bt, .bool h0.ck, .int .i64 h0.bk, .int .i64 h0.sz, .int .u8 h0.sm, .int .u16 h0.wh] 30)).cell? ⟨ad.block, ad.off + 328, none⟩ = some (.int .u8 (rd l 328)) := c328
 obtain ⟨a_329, e_329, c329⟩ := Kd.at_int (Kd.C_below HR.out HB.out) 329 (by omega) (by omega)
 obtain rfl := Option.some.inj e_329
 clear e_329
 replace c329 : (w1.alloc (.cells #[.string h0.t, .int .u8 h0.kd, .int .i64 h0.mp, .bool h0.rm, .bool h0.bt, .bool h0.ck, .int .i64 h0.bk, .int .i64 h0.sz, .int .u8 h0.sm, .int .u16 h0.wh] 30)).cell? ⟨ad.block, ad.off + 329, none⟩ = some (.int .u8 (rd l 329)) := c329
 go_wp2_with (first
  | ((with_reducible refine az (t := 30) (p := 2) (v := .tmp 45) rfl ?_); have y0 := ab.mk (BZ.out.fillZ [.string ⟨#[]⟩, .int .u8 0, .int .i64 0, .bool false, .bool false, .bool false, .int .i64 0, .int .i64 0, .int .u8 0, .int .u16 0] rfl); have y1 := ab.mk (ay HB.out w.heap.size 0 (Nat.le_refl _) [.string ⟨#[]⟩, .int .u8 0, .int .i64 0, .bool false, .bool false, .bool false, .int .i64 0, .int .i64 0, .int .u8 0, .int .u16 0]); refine wpList_store_mid rfl 30 (.tmp 2) (.tmp 45) rfl w.heap.size 0 (List.toArray [.string ⟨#[]⟩, .int .u8 0, .int .i64 0, .bool false, .bool false, .bool false, .int .i64 0, .int .i64 0, .int .u8 0, .int .u16 0]) rfl rfl BZ.out.there (by kernel_rfl) (by simp [Value.oneCell']) ?_; generalize World.setCells _ w.heap.size 0 _ = Y at y0 y1 ⊢; simp only [Act.put, List.setIfInBounds_toArray, List.set_cons_zero, List.set_cons_succ]))
 refine bodyPost_ret (bq rfl _ _ _ _ _ _ _ rfl y0.out rfl rfl (by kernel_rfl)) rfl ⟨rfl, y1.out⟩
theorem rp_size_b (A : Option Addr) (c : Nat) (l : List Int) (hl : 336 ≤ l.length) (w : World) (hr : Kd.C (Kd.int .u8) w A l.length l) (hc : l.length ≤ c) (h0 : Hd) (hk : Puts 60 #[.int .u8 (rd l 327)] (.tuple #[.agg #[.string h0.t, .int .u8 h0.kd, .int .i64 h0.mp, .bool h0.rm, .bool h0.bt, .bool h0.ck, .int .i64 h0.bk, .int .i64 h0.sz, .int .u8 h0.sm, .int .u16 h0.wh], .bool true])) (h8 : decide (8 < rd l 328) = false) (h5 : decide (5 < rd l 329) = true) :
  Calls Try.prog 30 #[.slice A l.length c] w fun e' w' => e' = .returned (.tuple #[.agg #[.string ⟨#[]⟩, .int .u8 0, .int .i64 0, .bool false, .bool false, .bool false, .int .i64 0, .int .i64 0, .int .u8 0, .int .u16 0], .int .i64 5]) ∧ Below w.heap.size w w' := by
 obtain ⟨ad, rfl, _⟩ := Kd.at_int hr 327 (by omega) (by omega)
 have HR := ab.mk hr
 have BZ := ab.mk (bR.new w [.string ⟨#[]⟩, .int .u8 0, .int .i64 0, .bool false, .bool false, .bool false, .int .i64 0, .int .i64 0, .int .u8 0, .int .u16 0] rfl)
 have HB := ab.mk (ac (Below.refl w.heap.size w) (.cells [.string ⟨#[]⟩, .int .u8 0, .int .i64 0, .bool false, .bool false, .bool false, .int .i64 0, .int .i64 0, .int .u8 0, .int .u16 0].toArray 30))
 obtain ⟨a_327, e_327, c327⟩ := Kd.at_int (Kd.C_below HR.out HB.out) 327 (by omega) (by omega)
 obtain rfl := Option.some.inj e_327
 clear e_327
 replace c327 : (w.alloc (.cells #[.string ⟨#[]⟩, .int .u8 0, .int .i64 0, .bool false, .bool false, .bool false, .int .i64 0, .int .i64 0, .int .u8 0, .int .u16 0] 30)).cell? ⟨ad.block, ad.off + 327, none⟩ = some (.int .u8 (rd l 327)) := c327
 have hlt : decide ((l.length : Int) < 336) = false := by simp; omega
 have h327 : (327 : Int) < l.length := by omega
 have h327c : (327 : Int) < c := by omega
 have h328 : (328 : Int) < l.length := by omega
 have h329 : (329 : Int) < l.length := by omega
 have h333 : (333 : Int) < l.length := by omega
 have h328c : (328 : Int) < c := by omega
 have h329c : (329 : Int) < c := by omega
 have h333c : (333 : Int) < c := by omega
 have HK := ab.mk hk
 clear hr hk
 go_enter Try.func30, Try.ntmps30
 go_wp2_with fail
 refine (HK.out.run _).mono ?_
 rintro e' w1 ⟨rfl, hb⟩
 clear c327 hlt HK
 have BZ_ := ab.mk (BZ.out.below hb)
 have HB_ := ab.mk (ak HB.out hb)
 clear BZ HB hb
 have BZ := BZ_
 have HB := HB_
 clear BZ_ HB_
 have BH := ab.mk (HAt.new w1 h0)
 have z_ := ab.mk (BZ.out.alloc (.cells #[.string h0.t, .int .u8 h0.kd, .int .i64 h0.mp, .bool h0.rm, .bool h0.bt, .bool h0.ck, .int .i64 h0.bk, .int .i64 h0.sz, .int .u8 h0.sm, .int .u16 h0.wh] 30))
 have hb_ := ab.mk (ac HB.out (.cells #[.string h0.t, .int .u8 h0.kd, .int .i64 h0.mp, .bool h0.rm, .bool h0.bt, .bool h0.ck, .int .i64 h0.bk, .int .i64 h0.sz, .int .u8 h0.sm, .int .u16 h0.wh] 30))
 have NE := ab.mk (show w.heap.size < w1.heap.size from BZ.out.lt)
 clear BZ HB
 have BZ := z_
 have HB := hb_
 clear z_ hb_
 obtain ⟨a_328, e_328, c328⟩ := Kd.at_int (Kd.C_below HR.out HB.out) 328 (by omega) (by omega)
 obtain rfl := Option.some.inj e_328
 clear e_328
 replace c328 : (w1.alloc (.cells #[.string h0.t, .int .u8 h0.kd, .int .i64 h0.mp, .bool h0.rm, .bool h0.bt, .bool h0.ck, .int .i64 h0.bk, .int .i64 h0.sz, .int .u8 h0.sm, .int .u16 h0.wh] 30)).cell? ⟨ad.block, ad.off + 328, none⟩ = some (.int .u8 (rd l 328)) := c328
 obtain ⟨a_329, e_329, c329⟩ := Kd.at_int (Kd.C_below HR.out HB.out) 329 (by omega) (by omega)
 obtain rfl := Option.some.inj e_329
 clear e_329
 replace c329 : (w1.alloc (.cells #[.string h0.t, .int .u8 h0.kd, .int .i64 h0.mp, .bool h0.rm, .bool h0.bt, .bool h0.ck, .int .i64 h0.bk, .int .i64 h0.sz, .int .u8 h0.sm, .int .u16 h0.wh] 30)).cell? ⟨ad.block, ad.off + 329, none⟩ = some (.int .u8 (rd l 329)) := c329
 go_wp2_with (first
  | ((with_reducible refine az (t := 30) (p := 2) (v := .tmp 45) rfl ?_); have y0 := ab.mk (BZ.out.fillZ [.string ⟨#[]⟩, .int .u8 0, .int .i64 0, .bool false, .bool false, .bool false, .int .i64 0, .int .i64 0, .int .u8 0, .int .u16 0] rfl); have y1 := ab.mk (ay HB.out w.heap.size 0 (Nat.le_refl _) [.string ⟨#[]⟩, .int .u8 0, .int .i64 0, .bool false, .bool false, .bool false, .int .i64 0, .int .i64 0, .int .u8 0, .int .u16 0]); refine wpList_store_mid rfl 30 (.tmp 2) (.tmp 45) rfl w.heap.size 0 (List.toArray [.string ⟨#[]⟩, .int .u8 0, .int .i64 0, .bool false, .bool false, .bool false, .int .i64 0, .int .i64 0, .int .u8 0, .int .u16 0]) rfl rfl BZ.out.there (by kernel_rfl) (by simp [Value.oneCell']) ?_; generalize World.setCells _ w.heap.size 0 _ = Y at y0 y1 ⊢; simp only [Act.put, List.setIfInBounds_toArray, List.set_cons_zero, List.set_cons_succ]))
 refine bodyPost_ret (bq rfl _ _ _ _ _ _ _ rfl y0.out rfl rfl (by kernel_rfl)) rfl ⟨rfl, y1.out⟩
theorem rp_size_c (A : Option Addr) (c : Nat) (l : List Int) (hl : 336 ≤ l.length) (w : World) (hr : Kd.C (Kd.int .u8) w A l.length l) (hc : l.length ≤ c) (h0 : Hd) (hk : Puts 60 #[.int .u8 (rd l 327)] (.tuple #[.agg #[.string h0.t, .int .u8 h0.kd, .int .i64 h0.mp, .bool h0.rm, .bool h0.bt, .bool h0.ck, .int .i64 h0.bk, .int .i64 h0.sz, .int .u8 h0.sm, .int .u16 h0.wh], .bool true])) (h8 : decide (8 < rd l 328) = false) (h5 : decide (5 < rd l 329) = false) (mo : Int) (hm : Puts 61 #[.int .u8 (rd l 328)] (.int .i64 mo)) (hsz : decide (mo < (l.length : Int)) = true) :
  Calls Try.prog 30 #[.slice A l.length c] w fun e' w' => e' = .returned (.tuple #[.agg #[.string ⟨#[]⟩, .int .u8 0, .int .i64 0, .bool false, .bool false, .bool false, .int .i64 0, .int .i64 0, .int .u8 0, .int .u16 0], .int .i64 5]) ∧ Below w.heap.size w w' := by
 have HM := ab.mk hm
 clear hm
 obtain ⟨ad, rfl, _⟩ := Kd.at_int hr 327 (by omega) (by omega)
 have HR := ab.mk hr
 have BZ := ab.mk (bR.new w [.string ⟨#[]⟩, .int .u8 0, .int .i64 0, .bool false, .bool false, .bool false, .int .i64 0, .int .i64 0, .int .u8 0, .int .u16 0] rfl)
 have HB := ab.mk (ac (Below.refl w.heap.size w) (.cells [.string ⟨#[]⟩, .int .u8 0, .int .i64 0, .bool false, .bool false, .bool false, .int .i64 0, .int .i64 0, .int .u8 0, .int .u16 0].toArray 30))
 obtain ⟨a_327, e_327, c327⟩ := Kd.at_int (Kd.C_below HR.out HB.out) 327 (by omega) (by omega)
 obtain rfl := Option.some.inj e_327
 clear e_327
 replace c327 : (w.alloc (.cells #[.string ⟨#[]⟩, .int .u8 0, .int .i64 0, .bool false, .bool false, .bool false, .int .i64 0, .int .i64 0, .int .u8 0, .int .u16 0] 30)).cell? ⟨ad.block, ad.off + 327, none⟩ = some (.int .u8 (rd l 327)) := c327
 have hlt : decide ((l.length : Int) < 336) = false := by simp; omega
 have h327 : (327 : Int) < l.length := by omega
 have h327c : (327 : Int) < c := by omega
 have h328 : (328 : Int) < l.length := by omega
 have h329 : (329 : Int) < l.length := by omega
 have h333 : (333 : Int) < l.length := by omega
 have h328c : (328 : Int) < c := by omega
 have h329c : (329 : Int) < c := by omega
 have h333c : (333 : Int) < c := by omega
 have HK := ab.mk hk
 clear hr hk
 go_enter Try.func30, Try.ntmps30
 go_wp2_with fail
 refine (HK.out.run _).mono ?_
 rintro e' w1 ⟨rfl, hb⟩
 clear c327 hlt HK
 have BZ_ := ab.mk (BZ.out.below hb)
 have HB_ := ab.mk (ak HB.out hb)
 clear BZ HB hb
 have BZ := BZ_
 have HB := HB_
 clear BZ_ HB_
 have BH := ab.mk (HAt.new w1 h0)
 have z_ := ab.mk (BZ.out.alloc (.cells #[.string h0.t, .int .u8 h0.kd, .int .i64 h0.mp, .bool h0.rm, .bool h0.bt, .bool h0.ck, .int .i64 h0.bk, .int .i64 h0.sz, .int .u8 h0.sm, .int .u16 h0.wh] 30))
 have hb_ := ab.mk (ac HB.out (.cells #[.string h0.t, .int .u8 h0.kd, .int .i64 h0.mp, .bool h0.rm, .bool h0.bt, .bool h0.ck, .int .i64 h0.bk, .int .i64 h0.sz, .int .u8 h0.sm, .int .u16 h0.wh] 30))
 have NE := ab.mk (show w.heap.size < w1.heap.size from BZ.out.lt)
 clear BZ HB
 have BZ := z_
 have HB := hb_
 clear z_ hb_
 obtain ⟨a_328, e_328, c328⟩ := Kd.at_int (Kd.C_below HR.out HB.out) 328 (by omega) (by omega)
 obtain rfl := Option.some.inj e_328
 clear e_328
 replace c328 : (w1.alloc (.cells #[.string h0.t, .int .u8 h0.kd, .int .i64 h0.mp, .bool h0.rm, .bool h0.bt, .bool h0.ck, .int .i64 h0.bk, .int .i64 h0.sz, .int .u8 h0.sm, .int .u16 h0.wh] 30)).cell? ⟨ad.block, ad.off + 328, none⟩ = some (.int .u8 (rd l 328)) := c328
 obtain ⟨a_329, e_329, c329⟩ := Kd.at_int (Kd.C_below HR.out HB.out) 329 (by omega) (by omega)
 obtain rfl := Option.some.inj e_329
 clear e_329
 replace c329 : (w1.alloc (.cells #[.string h0.t, .int .u8 h0.kd, .int .i64 h0.mp, .bool h0.rm, .bool h0.bt, .bool h0.ck, .int .i64 h0.bk, .int .i64 h0.sz, .int .u8 h0.sm, .int .u16 h0.wh] 30)).cell? ⟨ad.block, ad.off + 329, none⟩ = some (.int .u8 (rd l 329)) := c329
 go_wp2_with fail
 generalize w1.alloc (.cells #[.string h0.t, .int .u8 h0.kd, .int .i64 h0.mp, .bool h0.rm, .bool h0.bt, .bool h0.ck, .int .i64 h0.bk, .int .i64 h0.sz, .int .u8 h0.sm, .int .u16 h0.wh] 30) = W2 at BH BZ HB c328 c329 ⊢
 refine (HM.out.run _).mono ?_
 rintro e' w2 ⟨rfl, hb⟩
 clear c328 c329
 have BZ_ := ab.mk (BZ.out.below hb)
 have BH_ := ab.mk (BH.out.below hb)
 have HB_ := ab.mk (ak HB.out hb)
 clear BZ BH HB hb
 have BZ := BZ_
 have BH := BH_
 have HB := HB_
 clear BZ_ BH_ HB_
 go_wp2_with (first
  | ((with_reducible refine az (t := 30) (p := 2) (v := .tmp 45) rfl ?_); have y0 := ab.mk (BZ.out.fillZ [.string ⟨#[]⟩, .int .u8 0, .int .i64 0, .bool false, .bool false, .bool false, .int .i64 0, .int .i64 0, .int .u8 0, .int .u16 0] rfl); have y1 := ab.mk (ay HB.out w.heap.size 0 (Nat.le_refl _) [.string ⟨#[]⟩, .int .u8 0, .int .i64 0, .bool false, .bool false, .bool false, .int .i64 0, .int .i64 0, .int .u8 0, .int .u16 0]); refine wpList_store_mid rfl 30 (.tmp 2) (.tmp 45) rfl w.heap.size 0 (List.toArray [.string ⟨#[]⟩, .int .u8 0, .int .i64 0, .bool false, .bool false, .bool false, .int .i64 0, .int .i64 0, .int .u8 0, .int .u16 0]) rfl rfl BZ.out.there (by kernel_rfl) (by simp [Value.oneCell']) ?_; generalize World.setCells _ w.heap.size 0 _ = Y at y0 y1 ⊢; simp only [Act.put, List.setIfInBounds_toArray, List.set_cons_zero, List.set_cons_succ]))
 refine bodyPost_ret (bq rfl _ _ _ _ _ _ _ rfl y0.out rfl rfl (by kernel_rfl)) rfl ⟨rfl, y1.out⟩
theorem rp_sum (A : Option Addr) (c : Nat) (l : List Int) (hl : 336 ≤ l.length) (w : World) (hr : Kd.C (Kd.int .u8) w A l.length l) (hc : l.length ≤ c) (h0 : Hd) (hk : Puts 60 #[.int .u8 (rd l 327)] (.tuple #[.agg #[.string h0.t, .int .u8 h0.kd, .int .i64 h0.mp, .bool h0.rm, .bool h0.bt, .bool h0.ck, .int .i64 h0.bk, .int .i64 h0.sz, .int .u8 h0.sm, .int .u16 h0.wh], .bool true])) (h8 : decide (8 < rd l 328) = false) (h5 : decide (5 < rd l 329) = false) (mo : Int) (hm : Puts 61 #[.int .u8 (rd l 328)] (.int .i64 mo)) (hsz : decide (mo < (l.length : Int)) = false) (x z : Int) (hsum : ∀ w1 : World, Below w.heap.size w w1 → Calls Try.prog 62 #[.slice A l.length c] w1 fun e' w' => e' = .returned (.tuple #[.int .u8 x, .int .i64 z]) ∧ Below w1.heap.size w1 w') (hx : (x == rd l 333) = false) :
  Calls Try.prog 30 #[.slice A l.length c] w fun e' w' => e' = .returned (.tuple #[.agg #[.string ⟨#[]⟩, .int .u8 0, .int .i64 0, .bool false, .bool false, .bool false, .int .i64 0, .int .i64 0, .int .u8 0, .int .u16 0], .int .i64 3]) ∧ Below w.heap.size w w' := by
 have HM := ab.mk hm
 clear hm
 have HS := ab.mk hsum
 clear hsum
 obtain ⟨ad, rfl, _⟩ := Kd.at_int hr 327 (by omega) (by omega)
 have HR := ab.mk hr
 have BZ := ab.mk (bR.new w [.string ⟨#[]⟩, .int .u8 0, .int .i64 0, .bool false, .bool false, .bool false, .int .i64 0, .int .i64 0, .int .u8 0, .int .u16 0] rfl)
 have HB := ab.mk (ac (Below.refl w.heap.size w) (.cells [.string ⟨#[]⟩, .int .u8 0, .int .i64 0, .bool false, .bool false, .bool false, .int .i64 0, .int .i64 0, .int .u8 0, .int .u16 0].toArray 30))
 obtain ⟨a_327, e_327, c327⟩ := Kd.at_int (Kd.C_below HR.out HB.out) 327 (by omega) (by omega)
 obtain rfl := Option.some.inj e_327
 clear e_327
 replace c327 : (w.alloc (.cells #[.string ⟨#[]⟩, .int .u8 0, .int .i64 0, .bool false, .bool false, .bool false, .int .i64 0, .int .i64 0, .int .u8 0, .int .u16 0] 30)).cell? ⟨ad.block, ad.off + 327, none⟩ = some (.int .u8 (rd l 327)) := c327
 have hlt : decide ((l.length : Int) < 336) = false := by simp; omega
 have h327 : (327 : Int) < l.length := by omega
 have h327c : (327 : Int) < c := by omega
 have h328 : (328 : Int) < l.length := by omega
 have h329 : (329 : Int) < l.length := by omega
 have h333 : (333 : Int) < l.length := by omega
 have h328c : (328 : Int) < c := by omega
 have h329c : (329 : Int) < c := by omega
 have h333c : (333 : Int) < c := by omega
 have HK := ab.mk hk
 clear hr hk
 go_enter Try.func30, Try.ntmps30
 go_wp2_with fail
 refine (HK.out.run _).mono ?_
 rintro e' w1 ⟨rfl, hb⟩
 clear c327 hlt HK
 have BZ_ := ab.mk (BZ.out.below hb)
 have HB_ := ab.mk (ak HB.out hb)
 clear BZ HB hb
 have BZ := BZ_
 have HB := HB_
 clear BZ_ HB_
 have BH := ab.mk (HAt.new w1 h0)
 have z_ := ab.mk (BZ.out.alloc (.cells #[.string h0.t, .int .u8 h0.kd, .int .i64 h0.mp, .bool h0.rm, .bool h0.bt, .bool h0.ck, .int .i64 h0.bk, .int .i64 h0.sz, .int .u8 h0.sm, .int .u16 h0.wh] 30))
 have hb_ := ab.mk (ac HB.out (.cells #[.string h0.t, .int .u8 h0.kd, .int .i64 h0.mp, .bool h0.rm, .bool h0.bt, .bool h0.ck, .int .i64 h0.bk, .int .i64 h0.sz, .int .u8 h0.sm, .int .u16 h0.wh] 30))
 have NE := ab.mk (show w.heap.size < w1.heap.size from BZ.out.lt)
 clear BZ HB
 have BZ := z_
 have HB := hb_
 clear z_ hb_
 obtain ⟨a_328, e_328, c328⟩ := Kd.at_int (Kd.C_below HR.out HB.out) 328 (by omega) (by omega)
 obtain rfl := Option.some.inj e_328
 clear e_328
 replace c328 : (w1.alloc (.cells #[.string h0.t, .int .u8 h0.kd, .int .i64 h0.mp, .bool h0.rm, .bool h0.bt, .bool h0.ck, .int .i64 h0.bk, .int .i64 h0.sz, .int .u8 h0.sm, .int .u16 h0.wh] 30)).cell? ⟨ad.block, ad.off + 328, none⟩ = some (.int .u8 (rd l 328)) := c328
 obtain ⟨a_329, e_329, c329⟩ := Kd.at_int (Kd.C_below HR.out HB.out) 329 (by omega) (by omega)
 obtain rfl := Option.some.inj e_329
 clear e_329
 replace c329 : (w1.alloc (.cells #[.string h0.t, .int .u8 h0.kd, .int .i64 h0.mp, .bool h0.rm, .bool h0.bt, .bool h0.ck, .int .i64 h0.bk, .int .i64 h0.sz, .int .u8 h0.sm, .int .u16 h0.wh] 30)).cell? ⟨ad.block, ad.off + 329, none⟩ = some (.int .u8 (rd l 329)) := c329
 go_wp2_with fail
 generalize w1.alloc (.cells #[.string h0.t, .int .u8 h0.kd, .int .i64 h0.mp, .bool h0.rm, .bool h0.bt, .bool h0.ck, .int .i64 h0.bk, .int .i64 h0.sz, .int .u8 h0.sm, .int .u16 h0.wh] 30) = W2 at BH BZ HB c328 c329 ⊢
 refine (HM.out.run _).mono ?_
 rintro e' w2 ⟨rfl, hb⟩
 clear c328 c329
 have BZ_ := ab.mk (BZ.out.below hb)
 have BH_ := ab.mk (BH.out.below hb)
 have HB_ := ab.mk (ak HB.out hb)
 clear BZ BH HB hb
 have BZ := BZ_
 have BH := BH_
 have HB := HB_
 clear BZ_ BH_ HB_
 go_wp2_with fail
 refine (HS.out _ HB.out).mono ?_
 rintro e' w3 ⟨rfl, hb⟩
 clear hsz
 have BZ_ := ab.mk (BZ.out.below hb)
 have BH_ := ab.mk (BH.out.below hb)
 have HB_ := ab.mk (ak HB.out hb)
 clear BZ BH HB hb
 have BZ := BZ_
 have BH := BH_
 have HB := HB_
 clear BZ_ BH_ HB_
 obtain ⟨a_333, e_333, c333⟩ := Kd.at_int (Kd.C_below HR.out HB.out) 333 (by omega) (by omega)
 obtain rfl := Option.some.inj e_333
 clear e_333
 replace c333 : w3.cell? ⟨ad.block, ad.off + 333, none⟩ = some (.int .u8 (rd l 333)) := c333
 go_wp2_with (first
  | ((with_reducible refine az (t := 30) (p := 2) (v := .tmp 56) rfl ?_); have y0 := ab.mk (BZ.out.fillZ [.string ⟨#[]⟩, .int .u8 0, .int .i64 0, .bool false, .bool false, .bool false, .int .i64 0, .int .i64 0, .int .u8 0, .int .u16 0] rfl); have y1 := ab.mk (ay HB.out w.heap.size 0 (Nat.le_refl _) [.string ⟨#[]⟩, .int .u8 0, .int .i64 0, .bool false, .bool false, .bool false, .int .i64 0, .int .i64 0, .int .u8 0, .int .u16 0]); refine wpList_store_mid rfl 30 (.tmp 2) (.tmp 56) rfl w.heap.size 0 (List.toArray [.string ⟨#[]⟩, .int .u8 0, .int .i64 0, .bool false, .bool false, .bool false, .int .i64 0, .int .i64 0, .int .u8 0, .int .u16 0]) rfl rfl BZ.out.there (by kernel_rfl) (by simp [Value.oneCell']) ?_; generalize World.setCells _ w.heap.size 0 _ = Y at y0 y1 ⊢; simp only [Act.put, List.setIfInBounds_toArray, List.set_cons_zero, List.set_cons_succ]))
 refine bodyPost_ret (bq rfl _ _ _ _ _ _ _ rfl y0.out rfl rfl (by kernel_rfl)) rfl ⟨rfl, y1.out⟩
end Go.Proofs.Ytmjjojbedllmgaa.Hand
section
namespace Go.Proofs.Ytmjjojbedllmgaa.Pure
open Go.Proofs.Ytmjjojbedllmgaa.Hand
theorem str_append (a b : List Int) : strOfNums (a ++ b) = strOfNums a ++ strOfNums b := by
 apply ByteArray.ext
 simp [strOfNums, ByteArray.data_append]
theorem str_size (a : List Int) : (strOfNums a).size = a.length := by
 simp [strOfNums, ByteArray.size]
def bC (l : List Int) (j : Nat) : ByteArray := strOfNums ((l.take (308 + j)).drop 308)
theorem title_size (l : List Int) (j : Nat) (h : 308 + j ≤ l.length) : (bC l j).size = j := by
 unfold bC; rw [str_size]; simp; omega
theorem title_step (l : List Int) (j : Nat) (h : 308 + j < l.length) : bC l j ++ strOfNums [rd l (308 + (j : Int))] = bC l (j + 1) := by
 unfold bC
 rw [← str_append]
 congr 1
 have e : rd l (308 + (j : Int)) = l[308 + j] := by
  unfold rd
  rw [show (308 + (j : Int)).toNat = 308 + j by omega]
  simp [List.getD_eq_getElem?_getD, h]
 rw [e, show 308 + (j + 1) = (308 + j) + 1 by omega, List.take_succ_eq_append_getElem h, List.drop_append_of_le_length (by simp; omega)]
theorem title_zero (l : List Int) : bC l 0 = (⟨#[]⟩ : ByteArray) := by
 unfold bC
 rw [List.drop_take]
 rfl
theorem whole_or (x y : Int) (hx : 0 ≤ x ∧ x ≤ 255) (hy : 0 ≤ y ∧ y ≤ 255) : IntKind.u16.wrap (wrap64 ((wrap64 (256 * (wrap64 x))) + (wrap64 y))) = Go.bits .or .u16 (IntKind.u16.wrap (IntKind.u16.wrap x * 256)) (IntKind.u16.wrap y) := by
 have a1 : IntKind.u16.wrap x = x := by rw [IntKind.wrap_u16]; omega
 have a2 : IntKind.u16.wrap y = y := by rw [IntKind.wrap_u16]; omega
 have a3 : IntKind.u16.wrap (x * 256) = x * 256 := by rw [IntKind.wrap_u16]; omega
 rw [wrap64_in (x := x) (by omega), wrap64_in (x := y) (by omega), wrap64_in (x := 256 * x) (by omega), wrap64_in (x := 256 * x + y) (by omega), a1, a2, a3, u16_or256 x y (by omega) (by omega) (by omega) (by omega), IntKind.wrap_u16]
 omega
end Go.Proofs.Ytmjjojbedllmgaa.Pure
end
section
namespace Go.Proofs.Ytmjjojbedllmgaa.Hand
open Go.Proofs.Ytmjjojbedllmgaa.Pure
def szT (b : Bool) (m z : Int) : Int := if b = true then sizeT m else z
theorem idx6 {W : World} {g : Nat} {t : TypeId} (h : W.heap[g]? = some (.cells #[.int .i64 0, .int .i64 2048, .int .i64 8192, .int .i64 32768, .int .i64 131072, .int .i64 65536] t (0, 0))) (m : Int) (h0 : 0 ≤ m) (h5 : ¬ 5 < m) : W.cell? ⟨g, m.toNat, none⟩ = some (.int .i64 (sizeT m)) := by
 have h6 : m = 0 ∨ m = 1 ∨ m = 2 ∨ m = 3 ∨ m = 4 ∨ m = 5 := by omega
 rcases h6 with rfl | rfl | rfl | rfl | rfl | rfl <;> exact (aa h _).trans rfl
def rp16.T : Bool × List (List Nat × List Nat) := (true, [([], []), ([0], [0]), ([], []), ([], []), ([2, 3], [2, 3]), ([4], [4]), ([5], [5]), ([6], [6]), ([1, 7], [1, 7]), ([0, 1, 2, 3, 4, 5, 6, 7, 8], []), ([9, 8, 0, 1, 2, 3, 4, 5, 6, 7, 8], [8, 9])])
def rp16.B : List Nat := [0, 1, 0, 0, 12, 28, 60, 124, 255, 511, 1023]
theorem rp16.tab : rtab .any (opsOf Try.f30 16) = rp16.T := by kernel_rfl
theorem rp16.bits : waitsOk rp16.T.2 rp16.B = true := by kernel_rfl
theorem rp_ok (A : Option Addr) (c : Nat) (l : List Int) (hl : 336 ≤ l.length) (w : World) (hr : Kd.C (Kd.int .u8) w A l.length l) (hc : l.length ≤ c) (h0 : Hd) (ht0 : h0.t = ⟨#[]⟩) (bk : Int) (hk : Puts 60 #[.int .u8 (rd l 327)] (.tuple #[.agg #[.string h0.t, .int .u8 h0.kd, .int .i64 h0.mp, .bool h0.rm, .bool h0.bt, .bool h0.ck, .int .i64 h0.bk, .int .i64 h0.sz, .int .u8 h0.sm, .int .u16 h0.wh], .bool true])) (h8 : decide (8 < rd l 328) = false) (h5 : decide (5 < rd l 329) = false) (h50 : 0 ≤ rd l 329) (mo : Int) (hm : Puts 61 #[.int .u8 (rd l 328)] (.int .i64 mo)) (hmo : wrap64 (Int.tdiv mo 16384) = bk) (hsz : decide (mo < (l.length : Int)) = false) (z : Int) (hsum : ∀ w1 : World, Below w.heap.size w w1 → Calls Try.prog 62 #[.slice A l.length c] w1 fun e' w' => e' = .returned (.tuple #[.int .u8 (rd l 333), .int .i64 z]) ∧ Below w1.heap.size w1 w') (hsg : ∀ v : Int, Puts 63 #[.int .u8 v] (.bool (prb v))) :
  Calls Try.prog 30 #[.slice A l.length c] w fun e' w' => e' = .returned (.tuple #[.agg #[.string (⟨bC l (aI l), h0.kd, h0.mp, h0.rm, h0.bt, h0.ck, bk, szT h0.rm (rd l 329) h0.sz, rd l 333, IntKind.u16.wrap (wrap64 ((wrap64 (256 * (wrap64 (rd l 334)))) + (wrap64 (rd l 335))))⟩ : Hd).t, .int .u8 (⟨bC l (aI l), h0.kd, h0.mp, h0.rm, h0.bt, h0.ck, bk, szT h0.rm (rd l 329) h0.sz, rd l 333, IntKind.u16.wrap (wrap64 ((wrap64 (256 * (wrap64 (rd l 334)))) + (wrap64 (rd l 335))))⟩ : Hd).kd, .int .i64 (⟨bC l (aI l), h0.kd, h0.mp, h0.rm, h0.bt, h0.ck, bk, szT h0.rm (rd l 329) h0.sz, rd l 333, IntKind.u16.wrap (wrap64 ((wrap64 (256 * (wrap64 (rd l 334)))) + (wrap64 (rd l 335))))⟩ : Hd).mp, .bool (⟨bC l (aI l), h0.kd, h0.mp, h0.rm, h0.bt, h0.ck, bk, szT h0.rm (rd l 329) h0.sz, rd l 333, IntKind.u16.wrap (wrap64 ((wrap64 (256 * (wrap64 (rd l 334)))) + (wrap64 (rd l 335))))⟩ : Hd).rm, .bool (⟨bC l (aI l), h0.kd, h0.mp, h0.rm, h0.bt, h0.ck, bk, szT h0.rm (rd l 329) h0.sz, rd l 333, IntKind.u16.wrap (wrap64 ((wrap64 (256 * (wrap64 (rd l 334)))) + (wrap64 (rd l 335))))⟩ : Hd).bt, .bool (⟨bC l (aI l), h0.kd, h0.mp, h0.rm, h0.bt, h0.ck, bk, szT h0.rm (rd l 329) h0.sz, rd l 333, IntKind.u16.wrap (wrap64 ((wrap64 (256 * (wrap64 (rd l 334)))) + (wrap64 (rd l 335))))⟩ : Hd).ck, .int .i64 (⟨bC l (aI l), h0.kd, h0.mp, h0.rm, h0.bt, h0.ck, bk, szT h0.rm (rd l 329) h0.sz, rd l 333, IntKind.u16.wrap (wrap64 ((wrap64 (256 * (wrap64 (rd l 334)))) + (wrap64 (rd l 335))))⟩ : Hd).bk, .int .i64 (⟨bC l (aI l), h0.kd, h0.mp, h0.rm, h0.bt, h0.ck, bk, szT h0.rm (rd l 329) h0.sz, rd l 333, IntKind.u16.wrap (wrap64 ((wrap64 (256 * (wrap64 (rd l 334)))) + (wrap64 (rd l 335))))⟩ : Hd).sz, .int .u8 (⟨bC l (aI l), h0.kd, h0.mp, h0.rm, h0.bt, h0.ck, bk, szT h0.rm (rd l 329) h0.sz, rd l 333, IntKind.u16.wrap (wrap64 ((wrap64 (256 * (wrap64 (rd l 334)))) + (wrap64 (rd l 335))))⟩ : Hd).sm, .int .u16 (⟨bC l (aI l), h0.kd, h0.mp, h0.rm, h0.bt, h0.ck, bk, szT h0.rm (rd l 329) h0.sz, rd l 333, IntKind.u16.wrap (wrap64 ((wrap64 (256 * (wrap64 (rd l 334)))) + (wrap64 (rd l 335))))⟩ : Hd).wh], .int .i64 0]) ∧ Below w.heap.size w w' := by
 have HM := ab.mk hm
 clear hm
 have HS := ab.mk hsum
 clear hsum
 have HSG := ab.mk hsg
 clear hsg
 have HMO := ab.mk hmo
 clear hmo
 have H50 := ab.mk h50
 clear h50
 have HT0 := ab.mk ht0
 clear ht0
 obtain ⟨ad, rfl, _⟩ := Kd.at_int hr 327 (by omega) (by omega)
 have HR := ab.mk hr
 have BZ := ab.mk (bR.new w [.string ⟨#[]⟩, .int .u8 0, .int .i64 0, .bool false, .bool false, .bool false, .int .i64 0, .int .i64 0, .int .u8 0, .int .u16 0] rfl)
 have HB := ab.mk (ac (Below.refl w.heap.size w) (.cells [.string ⟨#[]⟩, .int .u8 0, .int .i64 0, .bool false, .bool false, .bool false, .int .i64 0, .int .i64 0, .int .u8 0, .int .u16 0].toArray 30))
 obtain ⟨a_327, e_327, c327⟩ := Kd.at_int (Kd.C_below HR.out HB.out) 327 (by omega) (by omega)
 obtain rfl := Option.some.inj e_327
 clear e_327
 replace c327 : (w.alloc (.cells #[.string ⟨#[]⟩, .int .u8 0, .int .i64 0, .bool false, .bool false, .bool false, .int .i64 0, .int .i64 0, .int .u8 0, .int .u16 0] 30)).cell? ⟨ad.block, ad.off + 327, none⟩ = some (.int .u8 (rd l 327)) := c327
 have hlt : decide ((l.length : Int) < 336) = false := by simp; omega
 have h327 : (327 : Int) < l.length := by omega
 have h327c : (327 : Int) < c := by omega
 have h328 : (328 : Int) < l.length := by omega
 have h329 : (329 : Int) < l.length := by omega
 have h333 : (333 : Int) < l.length := by omega
 have h328c : (328 : Int) < c := by omega
 have h329c : (329 : Int) < c := by omega
 have h333c : (333 : Int) < c := by omega
 have HK := ab.mk hk
 clear hr hk
 go_enter Try.func30, Try.ntmps30
 go_wp2_with fail
 refine (HK.out.run _).mono ?_
 rintro e' w1 ⟨rfl, hb⟩
 clear c327 hlt HK
 have BZ_ := ab.mk (BZ.out.below hb)
 have HB_ := ab.mk (ak HB.out hb)
 clear BZ HB hb
 have BZ := BZ_
 have HB := HB_
 clear BZ_ HB_
 have BH := ab.mk (HAt.new w1 h0)
 have z_ := ab.mk (BZ.out.alloc (.cells #[.string h0.t, .int .u8 h0.kd, .int .i64 h0.mp, .bool h0.rm, .bool h0.bt, .bool h0.ck, .int .i64 h0.bk, .int .i64 h0.sz, .int .u8 h0.sm, .int .u16 h0.wh] 30))
 have hb_ := ab.mk (ac HB.out (.cells #[.string h0.t, .int .u8 h0.kd, .int .i64 h0.mp, .bool h0.rm, .bool h0.bt, .bool h0.ck, .int .i64 h0.bk, .int .i64 h0.sz, .int .u8 h0.sm, .int .u16 h0.wh] 30))
 have NE := ab.mk (show w.heap.size < w1.heap.size from BZ.out.lt)
 clear BZ HB
 have BZ := z_
 have HB := hb_
 clear z_ hb_
 obtain ⟨a_328, e_328, c328⟩ := Kd.at_int (Kd.C_below HR.out HB.out) 328 (by omega) (by omega)
 obtain rfl := Option.some.inj e_328
 clear e_328
 replace c328 : (w1.alloc (.cells #[.string h0.t, .int .u8 h0.kd, .int .i64 h0.mp, .bool h0.rm, .bool h0.bt, .bool h0.ck, .int .i64 h0.bk, .int .i64 h0.sz, .int .u8 h0.sm, .int .u16 h0.wh] 30)).cell? ⟨ad.block, ad.off + 328, none⟩ = some (.int .u8 (rd l 328)) := c328
 obtain ⟨a_329, e_329, c329⟩ := Kd.at_int (Kd.C_below HR.out HB.out) 329 (by omega) (by omega)
 obtain rfl := Option.some.inj e_329
 clear e_329
 replace c329 : (w1.alloc (.cells #[.string h0.t, .int .u8 h0.kd, .int .i64 h0.mp, .bool h0.rm, .bool h0.bt, .bool h0.ck, .int .i64 h0.bk, .int .i64 h0.sz, .int .u8 h0.sm, .int .u16 h0.wh] 30)).cell? ⟨ad.block, ad.off + 329, none⟩ = some (.int .u8 (rd l 329)) := c329
 go_wp2_with fail
 generalize w1.alloc (.cells #[.string h0.t, .int .u8 h0.kd, .int .i64 h0.mp, .bool h0.rm, .bool h0.bt, .bool h0.ck, .int .i64 h0.bk, .int .i64 h0.sz, .int .u8 h0.sm, .int .u16 h0.wh] 30) = W2 at BH BZ HB c328 c329 ⊢
 refine (HM.out.run _).mono ?_
 rintro e' w2 ⟨rfl, hb⟩
 clear c328 c329
 have BZ_ := ab.mk (BZ.out.below hb)
 have BH_ := ab.mk (BH.out.below hb)
 have HB_ := ab.mk (ak HB.out hb)
 clear BZ BH HB hb
 have BZ := BZ_
 have BH := BH_
 have HB := HB_
 clear BZ_ BH_ HB_
 go_wp2_with fail
 refine (HS.out _ HB.out).mono ?_
 rintro e' w3 ⟨rfl, hb⟩
 clear hsz
 have BZ_ := ab.mk (BZ.out.below hb)
 have BH_ := ab.mk (BH.out.below hb)
 have HB_ := ab.mk (ak HB.out hb)
 clear BZ BH HB hb
 have BZ := BZ_
 have BH := BH_
 have HB := HB_
 clear BZ_ BH_ HB_
 obtain ⟨a_333, e_333, c333⟩ := Kd.at_int (Kd.C_below HR.out HB.out) 333 (by omega) (by omega)
 obtain rfl := Option.some.inj e_333
 clear e_333
 replace c333 : w3.cell? ⟨ad.block, ad.off + 333, none⟩ = some (.int .u8 (rd l 333)) := c333
 have hx3 : (rd l 333 == rd l 333) = true := by simp
 go_wp2_with fail
 have H5x := ab.mk h5
 clear h8 h5 hx3
 go_loopw [10] (fun n w' => ∃ (j : Nat), n = .int .i64 (308 + (j : Int)) ∧ ab (j ≤ 16 ∧ titleTo l (16 - j) j = aI l ∧ HAt w' w1.heap.size { h0 with t := bC l j } ∧ bR w' w.heap.size ∧ Below w.heap.size w w')) (fun n _ => 400 - (intOf n).toNat)
 case atStart =>
  refine ⟨0, rfl, ab.mk ⟨by omega, rfl, ?_, BZ.out, HB.out⟩⟩
  rw [title_zero, ← HT0.out]
  exact BH.out
 case round =>
  obtain ⟨j, rfl, HA⟩ := hrel
  obtain ⟨hj, ht, f0, f1, f2⟩ := HA.out
  clear HA BZ HB BH c333
  have BH := ab.mk f0
  have BZ := ab.mk f1
  have HB := ab.mk f2
  have HJ := ab.mk hj
  have HTT := ab.mk ht
  clear f0 f1 f2 hj ht
  by_cases hj16 : j = 16
  case' pos =>
   have hn : aI l = j := by rw [← HTT.out, hj16]; rfl
   have hlt : decide (308 + (j : Int) < 324) = false := by simp; omega
   rw [← hn] at BH
   clear hj16 hn HTT HJ
   generalize wr = W at BH BZ HB ⊢
  case' neg =>
   have HJ16 := ab.mk (show j < 16 by have := HJ.out; omega)
   have hlt : decide (308 + (j : Int) < 324) = true := by have := HJ16.out; simp; omega
   have i0 : (0 : Int) ≤ 308 + (j : Int) := by omega
   have i1 : 308 + (j : Int) < l.length := by have := HJ16.out; omega
   have i2 : 308 + (j : Int) < c := by omega
   obtain ⟨a_, ea, ci⟩ := Kd.at_int (Kd.C_below HR.out HB.out) (308 + (j : Int)) i0 i1
   obtain rfl := Option.some.inj ea
   rw [show (308 + (j : Int)).toNat = 308 + j by omega] at ci
   clear ea hj16
   go_wp2_with fail
   refine (Puts.run (HSG.out (rd l (308 + (j : Int)))) _).mono ?_
   rintro e' w4 ⟨rfl, hb⟩
   clear ci
   have BZ_ := ab.mk (BZ.out.below hb)
   have BH_ := ab.mk (BH.out.below hb)
   have HB_ := ab.mk (ak HB.out hb)
   clear BZ BH HB hb
   have BZ := BZ_
   have BH := BH_
   have HB := HB_
   clear BZ_ BH_ HB_
   cases hp : prb (rd l (308 + (j : Int)))
   case' false =>
    have hn : aI l = j := by
     rw [← HTT.out, show 16 - j = (16 - j - 1) + 1 by have := HJ16.out; omega]
     unfold titleTo
     rw [hp]
     rfl
    rw [← hn] at BH
    clear hp hn HTT HJ HJ16 hlt i0 i1 i2
    generalize w4 = W at BH BZ HB ⊢
   case true =>
    have HREL := ab.mk (show titleTo l (16 - (j + 1)) (j + 1) = aI l by
     rw [← HTT.out, show 16 - j = (16 - (j + 1)) + 1 by have := HJ16.out; omega]
     conv => rhs; unfold titleTo
     rw [hp]
     rfl)
    obtain ⟨a_, ea, ci⟩ := Kd.at_int (Kd.C_below HR.out HB.out) (308 + (j : Int)) i0 i1
    obtain rfl := Option.some.inj ea
    clear ea hp
    have hsz : (bC l j).size + (strOfNums [(rd l (308 + (j : Int)))]).size ≤ 9223372036854775807 := by
     rw [title_size l j (by omega), str_size]
     have := HJ16.out
     simp; omega
    have hsz2 : ¬ 9223372036854775807 < (bC l j).size + (strOfNums [(rd l (308 + (j : Int)))]).size := by omega
    go_wp2_with fail
    refine start_ (n := 11) (S := fun w' => w'.cell? ⟨w1.heap.size, 0, none⟩ = some (.string (bC l j)) ∧ w'.cell? (ad.add (308 + (j : Int)).toNat) = some (.int .u8 (rd l (308 + (j : Int))))) (ds := [10]) #[false, false, false, false, false, false, false, false, false, false, false] (by kernel_rfl) rfl rfl ⟨(aa (ap BH.out) 0).trans rfl, (World.cell?_drew _ _).trans ci⟩ (fun hHeld => ?_)
    refine with_tabW rp16.tab rp16.bits (fun HT_ HW_ => ?_)
    have b_ := ab.mk BH.out.drew
    have z_ := ab.mk BZ.out.drew
    have h_ := ab.mk (aj HB.out)
    replace ci := (World.cell?_drew _ _).trans ci
    clear BH BZ HB
    have BH := b_
    have BZ := z_
    have HB := h_
    clear b_ z_ h_
    generalize w4.drew = W5 at BH BZ HB ci hHeld ⊢
    refine bn (i := 0) (N := some 68) (v := ?_) (a' := ?_) #[true, false, false, false, false, false, false, false, false, false, false] rfl rfl (ba HT_.out (by kernel_rfl)) (fun _ _ _ h => h) (Or.inl ⟨by rfl, ?_⟩) ?_ ?_
    rotate_left
    ·intro w'
     go_simp
     with_reducible rfl
    rotate_left
    ·simp only [Act.put, List.setIfInBounds_toArray, List.set_cons_zero, List.set_cons_succ, aQ, aT]
     rfl
    refine bn (i := 2) (N := some 70) (v := ?_) (a' := ?_) #[true, false, true, false, false, false, false, false, false, false, false] rfl rfl (ba HT_.out (by kernel_rfl)) (fun _ _ _ h => h) (Or.inl ⟨by rfl, ?_⟩) ?_ ?_
    rotate_left
    ·intro w'
     go_simp
     with_reducible rfl
    rotate_left
    ·simp only [Act.put, List.setIfInBounds_toArray, List.set_cons_zero, List.set_cons_succ, aQ, aT]
     rfl
    refine bn (i := 3) (N := some 71) (v := ?_) (a' := ?_) #[true, false, true, true, false, false, false, false, false, false, false] rfl rfl (ba HT_.out (by kernel_rfl)) (fun _ _ _ h => h) (Or.inl ⟨by rfl, ?_⟩) ?_ ?_
    rotate_left
    ·intro w'
     go_simp
     with_reducible rfl
    rotate_left
    ·simp only [Act.put, List.setIfInBounds_toArray, List.set_cons_zero, List.set_cons_succ, aQ, aT]
     rfl
    refine bn (i := 4) (N := some 72) (v := ?_) (a' := ?_) #[true, false, true, true, true, false, false, false, false, false, false] rfl rfl (ba HT_.out (by kernel_rfl)) (fun _ _ _ h => h) (Or.inl ⟨by rfl, ?_⟩) ?_ ?_
    rotate_left
    ·intro w'
     go_simp
     with_reducible rfl
    rotate_left
    ·simp only [Act.put, List.setIfInBounds_toArray, List.set_cons_zero, List.set_cons_succ, aQ, aT]
     rfl
    refine bT (i := 1) (N := some 69) (v := ?_) (a' := ?_) #[true, true, true, true, true, false, false, false, false, false, false] rfl rfl (bg HT_.out HW_.out (by kernel_rfl)) (fun _ _ _ h => h) (Or.inl ⟨by rfl, ?_⟩) hHeld ?_ ?_
    rotate_left
    ·rintro w' ⟨s0, s1⟩
     go_simp
     with_reducible rfl
    rotate_left
    ·simp only [Act.put, List.setIfInBounds_toArray, List.set_cons_zero, List.set_cons_succ, aQ, aT]
     rfl
    refine bT (i := 5) (N := some 73) (v := ?_) (a' := ?_) #[true, true, true, true, true, true, false, false, false, false, false] rfl rfl (bg HT_.out HW_.out (by kernel_rfl)) (fun _ _ _ h => h) (Or.inl ⟨by rfl, ?_⟩) hHeld ?_ ?_
    rotate_left
    ·rintro w' ⟨s0, s1⟩
     go_simp
     with_reducible rfl
    rotate_left
    ·simp only [Act.put, List.setIfInBounds_toArray, List.set_cons_zero, List.set_cons_succ, aQ, aT]
     rfl
    refine one_ (i := 6) (N := some 74) #[true, true, true, true, true, true, true, false, false, false, false] rfl rfl (one_of HT_.out (by kernel_rfl)) (by decide) (fun K hK => ?_)
    refine event_step (v := .slice (some ⟨W5.heap.size, 0, none⟩) 1 1) (w1 := W5.alloc (.cells #[.int .u8 (rd l (308 + (j : Int)))] 5)) (by rfl) (by first | kernel_rfl | (go_simp; done) | (go_simp; rfl)) ?_
    have r_ := ab.mk (show RowL (W5.alloc (.cells #[.int .u8 (rd l (308 + (j : Int)))] 5)) W5.heap.size [(rd l (308 + (j : Int)))] from aC W5 (.cells #[.int .u8 (rd l (308 + (j : Int)))] 5))
    have b_ := ab.mk (BH.out.alloc (.cells #[.int .u8 (rd l (308 + (j : Int)))] 5))
    have z_ := ab.mk (BZ.out.alloc (.cells #[.int .u8 (rd l (308 + (j : Int)))] 5))
    have h_ := ab.mk (ac HB.out (.cells #[.int .u8 (rd l (308 + (j : Int)))] 5))
    clear BH BZ HB hHeld ci
    have BH := b_
    have BZ := z_
    have HB := h_
    clear b_ z_ h_
    generalize W5.alloc (.cells #[.int .u8 (rd l (308 + (j : Int)))] 5) = W6 at BH BZ HB r_ ⊢
    obtain ⟨a_, ea, ci⟩ := Kd.at_int (Kd.C_below HR.out HB.out) (308 + (j : Int)) i0 i1
    obtain rfl := Option.some.inj ea
    clear ea
    refine hK.out _ _ ⟨(aa BH.out 0).trans rfl, ci⟩ (fun hHeld => ?_)
    clear hK K
    refine norm_ (a' := ?_) ?_ ?_
    rotate_left
    ·show Act.put _ (some 74) _ = _
     simp only [Act.put, List.setIfInBounds_toArray, List.set_cons_zero, List.set_cons_succ, aQ, aT]
     rfl
    refine one_ (i := 7) (N := some 75) #[true, true, true, true, true, true, true, true, false, false, false] rfl rfl (one_of HT_.out (by kernel_rfl)) (by decide) (fun K hK => ?_)
    have hcv : (convert 22 9 (.slice (some ⟨W5.heap.size, 0, none⟩) 1 1)).run Try.prog W6 = .ok (.string (strOfNums [(rd l (308 + (j : Int)))])) W6 := Kd.C_string Try.underlying22 Try.underlying5 Try.underlying9 (r_.out.reads 1 (by simp) (by decide))
    refine event_step (v := .string (strOfNums [(rd l (308 + (j : Int)))])) (by rfl) (by go_simp; rfl) ?_
    clear hcv
    refine hK.out _ _ ⟨(aa BH.out 0).trans rfl, ci⟩ (fun hHeld => ?_)
    clear hK K
    refine norm_ (a' := ?_) ?_ ?_
    rotate_left
    ·show Act.put _ (some 75) _ = _
     simp only [Act.put, List.setIfInBounds_toArray, List.set_cons_zero, List.set_cons_succ, aQ, aT]
     rfl
    refine bn (i := 8) (N := some 76) (v := ?_) (a' := ?_) #[true, true, true, true, true, true, true, true, true, false, false] rfl rfl (ba HT_.out (by kernel_rfl)) (fun _ _ _ h => h) (Or.inl ⟨by rfl, ?_⟩) ?_ ?_
    rotate_left
    ·intro w'
     go_simp
     with_reducible rfl
    rotate_left
    ·simp only [Act.put, List.setIfInBounds_toArray, List.set_cons_zero, List.set_cons_succ, aQ, aT]
     rfl
    refine bn (i := 9) (N := some 77) (v := ?_) (a' := ?_) #[true, true, true, true, true, true, true, true, true, true, false] rfl rfl (ba HT_.out (by kernel_rfl)) (fun _ _ _ h => h) (Or.inl ⟨by rfl, ?_⟩) ?_ ?_
    rotate_left
    ·intro w'
     go_simp
     with_reducible rfl
    rotate_left
    ·simp only [Act.put, List.setIfInBounds_toArray, List.set_cons_zero, List.set_cons_succ, aQ, aT]
     rfl
    refine last_ (i := 10) (N := none) #[true, true, true, true, true, true, true, true, true, true, true] rfl rfl (one_of HT_.out (by kernel_rfl)) (by decide) (fun K hK => ?_)
    have x0 : W6.cell? ⟨w1.heap.size, 0, none⟩ = some (.string (bC l j)) := (aa BH.out 0).trans rfl
    have f0 := HAt.frozen BH.out 0
    refine skip_ (w1 := ?_) (by rfl) rfl ?_ ?_
    rotate_left
    ·go_simp
     rfl
    clear x0 f0 hHeld
    have b_ := ab.mk (BH.out.putT (bC l j ++ strOfNums [(rd l (308 + (j : Int)))]))
    have z_ := ab.mk (BZ.out.far1 (g := w1.heap.size) (Nat.ne_of_lt NE.out) 0 (.string (bC l j ++ strOfNums [(rd l (308 + (j : Int)))])))
    have h_ := ab.mk (show Below w.heap.size w (World.setCell W6 ⟨w1.heap.size, 0, none⟩ (.string (bC l j ++ strOfNums [(rd l (308 + (j : Int)))]))) from ag HB.out (Nat.le_of_lt NE.out))
    clear BH BZ HB
    have BH := b_
    have BZ := z_
    have HB := h_
    clear b_ z_ h_
    generalize World.setCell W6 _ _ = W7 at BH BZ HB ⊢
    refine hK.out _ _ ?_
    clear hK K
    refine done_ (done_of HT_.out (by kernel_rfl)) ?_
    have BQ : ab (HAt W7 w1.heap.size { h0 with t := bC l (j + 1) }) := ab.mk (by rw [← title_step l j (by omega)]; exact BH.out)
    have hw : wrap64 (308 + (j : Int) + 1) = 308 + ((j + 1 : Nat) : Int) := by have := HJ16.out; rw [IntWalk.wrap64_in _ (by omega)]; omega
    have REL := ab.mk (show ∃ (j' : Nat), Value.int .i64 (308 + ((j + 1 : Nat) : Int)) = .int .i64 (308 + (j' : Int)) ∧ ab (j' ≤ 16 ∧ titleTo l (16 - j') j' = aI l ∧ HAt W7 w1.heap.size { h0 with t := bC l j' } ∧ bR W7 w.heap.size ∧ Below w.heap.size w W7) from ⟨j + 1, rfl, ab.mk ⟨by have := HJ16.out; omega, HREL.out, BQ.out, BZ.out, HB.out⟩⟩)
    clear BQ BH BZ HB ci r_ hsz hsz2 i0 i1 i2 HREL HTT
    go_wp2
    rw [hw]
    exact ⟨REL.out, by have := HJ16.out; simp [intOf, hw]; omega⟩
  all_goals
   cases hrm : h0.rm
   case false =>
    have HRM := ab.mk hrm
    clear hrm
    go_wp2_with fail
    refine (HM.out.run _).mono ?_
    rintro e' w5 ⟨rfl, hb⟩
    have BZ_ := ab.mk (BZ.out.below hb)
    have BH_ := ab.mk (BH.out.below hb)
    have HB_ := ab.mk (ak HB.out hb)
    clear BZ BH HB hb
    have BZ := BZ_
    have BH := BH_
    have HB := HB_
    clear BZ_ BH_ HB_
    have q_ := HAt.c6 BH.out
    have x6 : w5.cell? ⟨w1.heap.size, 6, none⟩ = some (.int .i64 h0.bk) := q_
    clear q_
    have f6 := HAt.frozen BH.out 6
    go_wp2_with (first
      | ((with_reducible refine ar (N := 82) rfl ?_); have b_ := ab.mk (BH.out.putBk (wrap64 (Int.tdiv mo 16384))); have z_ := ab.mk (BZ.out.far1 (g := w1.heap.size) (Nat.ne_of_lt NE.out) 6 (.int .i64 (wrap64 (Int.tdiv mo 16384)))); have h_ := ab.mk (show Below w.heap.size w (World.setCell w5 ⟨w1.heap.size, 6, none⟩ (.int .i64 (wrap64 (Int.tdiv mo 16384)))) from ag HB.out (Nat.le_of_lt NE.out)); clear BH BZ HB; have BH := b_; have BZ := z_; have HB := h_; clear b_ z_ h_; generalize World.setCell w5 _ _ = W6 at BH BZ HB ⊢; clear x6 f6; have x3 : W6.cell? ⟨w1.heap.size, 3, none⟩ = some (.bool false) := (HAt.c3 BH.out).trans (by show some (Value.bool h0.rm) = _; rw [HRM.out]); have q_ := HAt.c8 BH.out; have x8 : W6.cell? ⟨w1.heap.size, 8, none⟩ = some (.int .u8 h0.sm) := q_; clear q_; have f8 := HAt.frozen BH.out 8))
    have b_ := ab.mk (BH.out.putSm (rd l 333))
    have z_ := ab.mk (BZ.out.far1 (g := w1.heap.size) (Nat.ne_of_lt NE.out) 8 (.int .u8 (rd l 333)))
    have h_ := ab.mk (show Below w.heap.size w (World.setCell W6 ⟨w1.heap.size, 8, none⟩ (.int .u8 (rd l 333))) from ag HB.out (Nat.le_of_lt NE.out))
    clear BH BZ HB
    have BH := b_
    have BZ := z_
    have HB := h_
    clear b_ z_ h_
    generalize World.setCell W6 _ _ = W9 at BH BZ HB ⊢
    clear x8 f8
    clear x3
    obtain ⟨a_334, e_334, c334⟩ := Kd.at_int (Kd.C_below HR.out HB.out) 334 (by omega) (by omega)
    obtain rfl := Option.some.inj e_334
    clear e_334
    replace c334 : W9.cell? ⟨ad.block, ad.off + 334, none⟩ = some (.int .u8 (rd l 334)) := c334
    obtain ⟨a_335, e_335, c335⟩ := Kd.at_int (Kd.C_below HR.out HB.out) 335 (by omega) (by omega)
    obtain rfl := Option.some.inj e_335
    clear e_335
    replace c335 : W9.cell? ⟨ad.block, ad.off + 335, none⟩ = some (.int .u8 (rd l 335)) := c335
    have c334d : W9.drew.cell? ⟨ad.block, ad.off + 334, none⟩ = some (.int .u8 (rd l 334)) := (World.cell?_drew _ _).trans c334
    have c335d : W9.drew.cell? ⟨ad.block, ad.off + 335, none⟩ = some (.int .u8 (rd l 335)) := (World.cell?_drew _ _).trans c335
    have p334 : (334 : Int) < l.length := by omega
    have p335 : (335 : Int) < l.length := by omega
    have p334c : (334 : Int) < c := by omega
    have p335c : (335 : Int) < c := by omega
    first | go_still_tail 12, (by kernel_rfl) | go_still_tail 11, (by kernel_rfl)
    change wpList _ _ _ _ _ W9.drew
    have b_ := ab.mk BH.out.drew
    have z_ := ab.mk BZ.out.drew
    have h_ := ab.mk (aj HB.out)
    clear BH BZ HB c334 c335
    have BH := b_
    have BZ := z_
    have HB := h_
    clear b_ z_ h_
    generalize W9.drew = W10 at BH BZ HB c334d c335d ⊢
    have q_ := HAt.c9 BH.out
    have x9 : W10.cell? ⟨w1.heap.size, 9, none⟩ = some (.int .u16 h0.wh) := q_
    clear q_
    have f9 := HAt.frozen BH.out 9
    go_wp2_with (first
      | ((with_reducible refine ar (N := 104) rfl ?_); have b_ := ab.mk (BH.out.putWh (IntKind.u16.wrap (wrap64 ((wrap64 (256 * (wrap64 (rd l 334)))) + (wrap64 (rd l 335)))))); have z_ := ab.mk (BZ.out.far1 (g := w1.heap.size) (Nat.ne_of_lt NE.out) 9 (.int .u16 (IntKind.u16.wrap (wrap64 ((wrap64 (256 * (wrap64 (rd l 334)))) + (wrap64 (rd l 335))))))); have h_ := ab.mk (show Below w.heap.size w (World.setCell W10 ⟨w1.heap.size, 9, none⟩ (.int .u16 (IntKind.u16.wrap (wrap64 ((wrap64 (256 * (wrap64 (rd l 334)))) + (wrap64 (rd l 335))))))) from ag HB.out (Nat.le_of_lt NE.out)); clear BH BZ HB; have BH := b_; have BZ := z_; have HB := h_; clear b_ z_ h_; generalize World.setCell W10 _ _ = W11 at BH BZ HB ⊢; clear x9 f9 c334d c335d; refine wpList_load_mid rfl 30 (.tmp 4) rfl w1.heap.size 0 rfl _ _ (HAt.range BH.out) rfl rfl (by kernel_rfl) ?_; simp only [Act.put, List.setIfInBounds_toArray, List.set_cons_zero, List.set_cons_succ])
      | ((with_reducible refine az (t := 30) (p := 2) (v := .tmp 104) rfl ?_); have y0 := ab.mk (BZ.out.fillZ ({ h0 with t := bC l (aI l), bk := wrap64 (Int.tdiv mo 16384), sz := h0.sz, sm := rd l 333, wh := IntKind.u16.wrap (wrap64 ((wrap64 (256 * (wrap64 (rd l 334)))) + (wrap64 (rd l 335)))) } : Hd).cells rfl); have y1 := ab.mk (ay HB.out w.heap.size 0 (Nat.le_refl _) ({ h0 with t := bC l (aI l), bk := wrap64 (Int.tdiv mo 16384), sz := h0.sz, sm := rd l 333, wh := IntKind.u16.wrap (wrap64 ((wrap64 (256 * (wrap64 (rd l 334)))) + (wrap64 (rd l 335)))) } : Hd).cells); refine wpList_store_mid rfl 30 (.tmp 2) (.tmp 104) rfl w.heap.size 0 _ rfl rfl BZ.out.there (by kernel_rfl) (Hd.one _) ?_; generalize World.setCells _ w.heap.size 0 _ = Y at y0 y1 ⊢; simp only [Act.put, List.setIfInBounds_toArray, List.set_cons_zero, List.set_cons_succ]))
    refine bodyPost_ret (bq rfl _ _ _ _ _ _ _ rfl y0.out rfl rfl (by kernel_rfl)) rfl ⟨by simp [HRM.out, HMO.out, szT], y1.out⟩
   case true =>
    have HRM := ab.mk hrm
    clear hrm
    go_wp2_with fail
    refine (HM.out.run _).mono ?_
    rintro e' w5 ⟨rfl, hb⟩
    have BZ_ := ab.mk (BZ.out.below hb)
    have BH_ := ab.mk (BH.out.below hb)
    have HB_ := ab.mk (ak HB.out hb)
    clear BZ BH HB hb
    have BZ := BZ_
    have BH := BH_
    have HB := HB_
    clear BZ_ BH_ HB_
    have q_ := HAt.c6 BH.out
    have x6 : w5.cell? ⟨w1.heap.size, 6, none⟩ = some (.int .i64 h0.bk) := q_
    clear q_
    have f6 := HAt.frozen BH.out 6
    go_wp2_with (first
      | ((with_reducible refine ar (N := 82) rfl ?_); have b_ := ab.mk (BH.out.putBk (wrap64 (Int.tdiv mo 16384))); have z_ := ab.mk (BZ.out.far1 (g := w1.heap.size) (Nat.ne_of_lt NE.out) 6 (.int .i64 (wrap64 (Int.tdiv mo 16384)))); have h_ := ab.mk (show Below w.heap.size w (World.setCell w5 ⟨w1.heap.size, 6, none⟩ (.int .i64 (wrap64 (Int.tdiv mo 16384)))) from ag HB.out (Nat.le_of_lt NE.out)); clear BH BZ HB; have BH := b_; have BZ := z_; have HB := h_; clear b_ z_ h_; generalize World.setCell w5 _ _ = W6 at BH BZ HB ⊢; clear x6 f6; have x3 : W6.cell? ⟨w1.heap.size, 3, none⟩ = some (.bool true) := (HAt.c3 BH.out).trans (by show some (Value.bool h0.rm) = _; rw [HRM.out]))
      | ((with_reducible refine ar (N := 84) rfl ?_); refine Kd.event_run (v := .slice (some ⟨W6.heap.size, 0, none⟩) 6 6) (w1 := W6.alloc (.cells #[.int .i64 0, .int .i64 2048, .int .i64 8192, .int .i64 32768, .int .i64 131072, .int .i64 65536] 3)) rfl (by first | kernel_rfl | (go_simp; done) | (go_simp; rfl)) ?_; have b_ := ab.mk (BH.out.alloc (.cells #[.int .i64 0, .int .i64 2048, .int .i64 8192, .int .i64 32768, .int .i64 131072, .int .i64 65536] 3)); have z_ := ab.mk (BZ.out.alloc (.cells #[.int .i64 0, .int .i64 2048, .int .i64 8192, .int .i64 32768, .int .i64 131072, .int .i64 65536] 3)); have h_ := ab.mk (ac HB.out (.cells #[.int .i64 0, .int .i64 2048, .int .i64 8192, .int .i64 32768, .int .i64 131072, .int .i64 65536] 3)); have r_ := ab.mk (idx6 (aC W6 (.cells #[.int .i64 0, .int .i64 2048, .int .i64 8192, .int .i64 32768, .int .i64 131072, .int .i64 65536] 3)) (rd l 329) H50.out (of_decide_eq_false H5x.out)); clear BH BZ HB x3; have BH := b_; have BZ := z_; have HB := h_; clear b_ z_ h_; generalize W6.alloc (.cells #[.int .i64 0, .int .i64 2048, .int .i64 8192, .int .i64 32768, .int .i64 131072, .int .i64 65536] 3) = W7 at BH BZ HB r_ ⊢; have xi := r_.out; have hi0 := H50.out; have hi5 : rd l 329 < 6 := (by have := of_decide_eq_false H5x.out; omega); have q_ := HAt.c7 BH.out; have x7 : W7.cell? ⟨w1.heap.size, 7, none⟩ = some (.int .i64 h0.sz) := q_; clear q_; have f7 := HAt.frozen BH.out 7; simp only [Act.put, List.setIfInBounds_toArray, List.set_cons_zero, List.set_cons_succ])
      | ((with_reducible refine ar (N := 91) rfl ?_); have b_ := ab.mk (BH.out.putSz (sizeT (rd l 329))); have z_ := ab.mk (BZ.out.far1 (g := w1.heap.size) (Nat.ne_of_lt NE.out) 7 (.int .i64 (sizeT (rd l 329)))); have h_ := ab.mk (show Below w.heap.size w (World.setCell W7 ⟨w1.heap.size, 7, none⟩ (.int .i64 (sizeT (rd l 329)))) from ag HB.out (Nat.le_of_lt NE.out)); clear BH BZ HB; have BH := b_; have BZ := z_; have HB := h_; clear b_ z_ h_; generalize World.setCell W7 _ _ = W8 at BH BZ HB ⊢; clear xi x7 f7; have q_ := HAt.c8 BH.out; have x8 : W8.cell? ⟨w1.heap.size, 8, none⟩ = some (.int .u8 h0.sm) := q_; clear q_; have f8 := HAt.frozen BH.out 8))
    have b_ := ab.mk (BH.out.putSm (rd l 333))
    have z_ := ab.mk (BZ.out.far1 (g := w1.heap.size) (Nat.ne_of_lt NE.out) 8 (.int .u8 (rd l 333)))
    have h_ := ab.mk (show Below w.heap.size w (World.setCell W8 ⟨w1.heap.size, 8, none⟩ (.int .u8 (rd l 333))) from ag HB.out (Nat.le_of_lt NE.out))
    clear BH BZ HB
    have BH := b_
    have BZ := z_
    have HB := h_
    clear b_ z_ h_
    generalize World.setCell W8 _ _ = W9 at BH BZ HB ⊢
    clear x8 f8
    obtain ⟨a_334, e_334, c334⟩ := Kd.at_int (Kd.C_below HR.out HB.out) 334 (by omega) (by omega)
    obtain rfl := Option.some.inj e_334
    clear e_334
    replace c334 : W9.cell? ⟨ad.block, ad.off + 334, none⟩ = some (.int .u8 (rd l 334)) := c334
    obtain ⟨a_335, e_335, c335⟩ := Kd.at_int (Kd.C_below HR.out HB.out) 335 (by omega) (by omega)
    obtain rfl := Option.some.inj e_335
    clear e_335
    replace c335 : W9.cell? ⟨ad.block, ad.off + 335, none⟩ = some (.int .u8 (rd l 335)) := c335
    have c334d : W9.drew.cell? ⟨ad.block, ad.off + 334, none⟩ = some (.int .u8 (rd l 334)) := (World.cell?_drew _ _).trans c334
    have c335d : W9.drew.cell? ⟨ad.block, ad.off + 335, none⟩ = some (.int .u8 (rd l 335)) := (World.cell?_drew _ _).trans c335
    have p334 : (334 : Int) < l.length := by omega
    have p335 : (335 : Int) < l.length := by omega
    have p334c : (334 : Int) < c := by omega
    have p335c : (335 : Int) < c := by omega
    first | go_still_tail 12, (by kernel_rfl) | go_still_tail 11, (by kernel_rfl)
    change wpList _ _ _ _ _ W9.drew
    have b_ := ab.mk BH.out.drew
    have z_ := ab.mk BZ.out.drew
    have h_ := ab.mk (aj HB.out)
    clear BH BZ HB c334 c335
    have BH := b_
    have BZ := z_
    have HB := h_
    clear b_ z_ h_
    generalize W9.drew = W10 at BH BZ HB c334d c335d ⊢
    have q_ := HAt.c9 BH.out
    have x9 : W10.cell? ⟨w1.heap.size, 9, none⟩ = some (.int .u16 h0.wh) := q_
    clear q_
    have f9 := HAt.frozen BH.out 9
    go_wp2_with (first
      | ((with_reducible refine ar (N := 104) rfl ?_); have b_ := ab.mk (BH.out.putWh (IntKind.u16.wrap (wrap64 ((wrap64 (256 * (wrap64 (rd l 334)))) + (wrap64 (rd l 335)))))); have z_ := ab.mk (BZ.out.far1 (g := w1.heap.size) (Nat.ne_of_lt NE.out) 9 (.int .u16 (IntKind.u16.wrap (wrap64 ((wrap64 (256 * (wrap64 (rd l 334)))) + (wrap64 (rd l 335))))))); have h_ := ab.mk (show Below w.heap.size w (World.setCell W10 ⟨w1.heap.size, 9, none⟩ (.int .u16 (IntKind.u16.wrap (wrap64 ((wrap64 (256 * (wrap64 (rd l 334)))) + (wrap64 (rd l 335))))))) from ag HB.out (Nat.le_of_lt NE.out)); clear BH BZ HB; have BH := b_; have BZ := z_; have HB := h_; clear b_ z_ h_; generalize World.setCell W10 _ _ = W11 at BH BZ HB ⊢; clear x9 f9 c334d c335d; refine wpList_load_mid rfl 30 (.tmp 4) rfl w1.heap.size 0 rfl _ _ (HAt.range BH.out) rfl rfl (by kernel_rfl) ?_; simp only [Act.put, List.setIfInBounds_toArray, List.set_cons_zero, List.set_cons_succ])
      | ((with_reducible refine az (t := 30) (p := 2) (v := .tmp 104) rfl ?_); have y0 := ab.mk (BZ.out.fillZ ({ h0 with t := bC l (aI l), bk := wrap64 (Int.tdiv mo 16384), sz := sizeT (rd l 329), sm := rd l 333, wh := IntKind.u16.wrap (wrap64 ((wrap64 (256 * (wrap64 (rd l 334)))) + (wrap64 (rd l 335)))) } : Hd).cells rfl); have y1 := ab.mk (ay HB.out w.heap.size 0 (Nat.le_refl _) ({ h0 with t := bC l (aI l), bk := wrap64 (Int.tdiv mo 16384), sz := sizeT (rd l 329), sm := rd l 333, wh := IntKind.u16.wrap (wrap64 ((wrap64 (256 * (wrap64 (rd l 334)))) + (wrap64 (rd l 335)))) } : Hd).cells); refine wpList_store_mid rfl 30 (.tmp 2) (.tmp 104) rfl w.heap.size 0 _ rfl rfl BZ.out.there (by kernel_rfl) (Hd.one _) ?_; generalize World.setCells _ w.heap.size 0 _ = Y at y0 y1 ⊢; simp only [Act.put, List.setIfInBounds_toArray, List.set_cons_zero, List.set_cons_succ]))
    refine bodyPost_ret (bq rfl _ _ _ _ _ _ _ rfl y0.out rfl rfl (by kernel_rfl)) rfl ⟨by simp [HRM.out, HMO.out, szT], y1.out⟩
end Go.Proofs.Ytmjjojbedllmgaa.Hand
end
namespace Go.Proofs.Ytmjjojbedllmgaa.G
def aH.l0 : Nat → List Int → Int → Int → Option (Bool)
 | 0, _, _, _ => none
 | k + 1, x0, x1, x5 => if x5 < (x0.length : Int) then (if 0 ≤ x5 then (if (rd x0 x5) = x1 then (some true) else (aH.l0 k x0 x1 (wrap64 (x5 + 1)))) else (none)) else (some false)
def aH.f (k : Nat) (l0 : List Int) (a1 : Int) : Option (Bool) := aH.l0 k l0 a1 0
theorem aH.calls (k : Nat) (A0 : Option Addr) (c0 : Nat) (l0 : List Int) (a1 : Int) (r : Bool) (w : World) (hr0 : Kd.C (Kd.int .u8) w A0 l0.length l0) (hc0 : l0.length ≤ c0) (h : aH.f k l0 a1 = some r) :
  Calls Try.prog 79 #[.slice A0 l0.length c0, .int .u8 a1] w fun e w' => e = .returned (.bool r) ∧ aM w w' := by
 have HR0 := ab.mk hr0
 have HC0 := ab.mk hc0
 clear hr0 hc0
 have H : (aH.l0 k l0 a1 0) = some r := h
 clear h
 have H' := ab.mk H
 clear H
 go_enter Try.func79, Try.ntmps79
 go_wp2
 go_loopg [5] k (fun kq v5 w' => ∃ (x5_1 : Int), v5 = .int .i64 x5_1 ∧ ab (aH.l0 kq l0 a1 x5_1 = some r) ∧ ab (kq ≤ k) ∧ aM w w')
 case atStart => exact ⟨(0), (by first | rfl | (simp; done) | (simp [*]; done)), H', ⟨Nat.le_refl _⟩, by repeat (first | exact aM.refl _ | apply aM.step)⟩
 case round =>
  clear H'
  try clear p2
  obtain ⟨x5_1, rfl, HA, HK1, ⟨m1, rfl⟩⟩ := hrel
  cases gk with
  | zero => exact absurd HA.out (by simp [aH.l0])
  | succ k1 =>
   have H := HA.out
   clear HA
   simp only [aH.l0] at H
   by_cases c3 : x5_1 < (l0.length : Int)
   ·rw [if_pos c3] at H
    have c3b0 : decide (x5_1 < (l0.length : Int)) = true := decide_eq_true c3
    clear c3
    by_cases c4 : 0 ≤ x5_1
    ·rw [if_pos c4] at H
     have c4b0 : decide (0 ≤ x5_1) = true := decide_eq_true c4
     clear c4
     by_cases c5 : (rd l0 x5_1) = a1
     ·rw [if_pos c5] at H
      have c5b0 : ((rd l0 x5_1) == a1) = true := beq_iff_eq.mpr c5
      have c5b1 : ((rd l0 x5_1) != a1) = false := bne_eq_false_iff_eq.mpr c5
      clear c5
      obtain rfl := Option.some.inj H
      have p131 : 0 ≤ (x5_1 : Int) := of_decide_eq_true (by first | (with_reducible assumption) | assumption)
      have q131 : x5_1 < (l0.length : Int) := of_decide_eq_true (by first | (with_reducible assumption) | assumption)
      obtain ⟨ad131, e131, hx131_0⟩ := Kd.at_int HR0.out x5_1 p131 q131
      cases e131
      replace p131 := eq_true p131
      replace q131 := eq_true q131
      go_wp2
      go_ret
      exact ⟨by first | rfl | (simp; done) | (simp [*]; done), by repeat (first | exact aM.refl _ | apply aM.step)⟩
     ·rw [if_neg c5] at H
      have c5b0 : ((rd l0 x5_1) == a1) = false := beq_eq_false_iff_ne.mpr c5
      have c5b1 : ((rd l0 x5_1) != a1) = true := bne_iff_ne.mpr c5
      have H' := ab.mk H
      clear H
      have p131 : 0 ≤ (x5_1 : Int) := of_decide_eq_true (by first | (with_reducible assumption) | assumption)
      have q131 : x5_1 < (l0.length : Int) := of_decide_eq_true (by first | (with_reducible assumption) | assumption)
      obtain ⟨ad131, e131, hx131_0⟩ := Kd.at_int HR0.out x5_1 p131 q131
      cases e131
      replace p131 := eq_true p131
      replace q131 := eq_true q131
      go_wp2
      go_roundg k1
      case measure => have := HK1.out; omega
      case rel => exact ⟨(wrap64 (x5_1 + 1)), (by first | rfl | (simp; done) | (simp [*]; done)), H', ⟨by have := HK1.out; omega⟩, by repeat (first | exact aM.refl _ | apply aM.step)⟩
    ·rw [if_neg c4] at H
     exact absurd H (by simp)
   ·rw [if_neg c3] at H
    have c3b0 : decide (x5_1 < (l0.length : Int)) = false := decide_eq_false c3
    clear c3
    obtain rfl := Option.some.inj H
    go_wp2
    go_ret
    exact ⟨by first | rfl | (simp; done) | (simp [*]; done), by repeat (first | exact aM.refl _ | apply aM.step)⟩
end Go.Proofs.Ytmjjojbedllmgaa.G
namespace Go.Proofs.Ytmjjojbedllmgaa.Hand
theorem in_all : ∀ v : Fin 256, aH.f 20 [1, 2, 3] (v.val : Int) = some ([1, 2, 3].contains (v.val : Int)) ∧ aH.f 20 [15, 16, 17, 18, 19] (v.val : Int) = some ([15, 16, 17, 18, 19].contains (v.val : Int)) ∧ aH.f 20 [25, 26, 27, 28, 29, 30] (v.val : Int) = some ([25, 26, 27, 28, 29, 30].contains (v.val : Int)) ∧ aH.f 20 [0, 8, 9] (v.val : Int) = some ([0, 8, 9].contains (v.val : Int)) ∧ aH.f 20 [2, 3, 8, 9, 16, 18, 19, 26, 27, 29, 30] (v.val : Int) = some ([2, 3, 8, 9, 16, 18, 19, 26, 27, 29, 30].contains (v.val : Int)) ∧ aH.f 20 [3, 9, 15, 16, 19, 27, 30] (v.val : Int) = some ([3, 9, 15, 16, 19, 27, 30].contains (v.val : Int)) ∧ aH.f 20 [15, 16] (v.val : Int) = some ([15, 16].contains (v.val : Int)) := by decide +kernel
theorem kinds_same : ∀ v : Fin 256, (am (v.val : Int)).2.2.2.2 = ([0, 8, 9].contains (v.val : Int) || [1, 2, 3].contains (v.val : Int) || [15, 16, 17, 18, 19].contains (v.val : Int) || [25, 26, 27, 28, 29, 30].contains (v.val : Int)) ∧ ((am (v.val : Int)).2.2.2.2 = true → (am (v.val : Int)).1 = (if [25, 26, 27, 28, 29, 30].contains (v.val : Int) = true then 5 else if [15, 16, 17, 18, 19].contains (v.val : Int) = true then 3 else if [1, 2, 3].contains (v.val : Int) = true then 1 else 0) ∧ (am (v.val : Int)).2.1 = [2, 3, 8, 9, 16, 18, 19, 26, 27, 29, 30].contains (v.val : Int) ∧ (am (v.val : Int)).2.2.1 = [3, 9, 15, 16, 19, 27, 30].contains (v.val : Int) ∧ (am (v.val : Int)).2.2.2.1 = [15, 16].contains (v.val : Int)) ∧ ((am (v.val : Int)).2.2.2.2 = false → am (v.val : Int) = (0, false, false, false, false)) ∧ (([1, 2, 3].contains (v.val : Int) && [15, 16, 17, 18, 19].contains (v.val : Int)) = false ∧ ([1, 2, 3].contains (v.val : Int) && [25, 26, 27, 28, 29, 30].contains (v.val : Int)) = false ∧ ([15, 16, 17, 18, 19].contains (v.val : Int) && [25, 26, 27, 28, 29, 30].contains (v.val : Int)) = false ∧ ([0, 8, 9].contains (v.val : Int) && ([1, 2, 3].contains (v.val : Int) || [15, 16, 17, 18, 19].contains (v.val : Int) || [25, 26, 27, 28, 29, 30].contains (v.val : Int))) = false) := by decide +kernel
theorem row_lit {w : World} {l : List Int} (o : Array Value) (ho : o = (l.map (Value.int .u8)).toArray) (hl : l.length ≤ 100) : Kd.C (Kd.int .u8) (w.alloc (.cells o 5)) (some ⟨w.heap.size, 0, none⟩) l.length l := by
 subst ho
 have q := RowL.reads (w := w.alloc (.cells (l.map (Value.int .u8)).toArray 5)) (g := w.heap.size) (L := l) (aC w _) l.length (Nat.le_refl _) (by omega)
 rwa [List.take_length] at q
theorem in_put {l : List Int} {v : Int} {r : Bool} (h : aH.f 20 l v = some r) (n : Nat) (hn : l.length ≤ n) (hl : l.length ≤ 100) (o : Array Value) (ho : o = (l.map (Value.int .u8)).toArray) (u : World) :
  Calls Try.prog 79 #[.slice (some ⟨u.heap.size, 0, none⟩) l.length n, .int .u8 v] (u.alloc (.cells o 5)) fun e w' => e = .returned (.bool r) ∧ Below (u.alloc (.cells o 5)).heap.size (u.alloc (.cells o 5)) w' := by
 refine (aH.calls 20 (some ⟨u.heap.size, 0, none⟩) n l v r _ (row_lit o ho hl) hn h).mono ?_
 intro e' u' hall
 exact ⟨hall.1, hall.2.below⟩
def kindsV (v m : Int) (ram bat clk okv : Bool) : Value := (if okv = true then .tuple #[.agg #[.string ⟨#[]⟩, .int .u8 v, .int .i64 m, .bool ram, .bool bat, .bool clk, .int .i64 0, .int .i64 0, .int .u8 0, .int .u16 0], .bool true] else .tuple #[.agg #[.string ⟨#[]⟩, .int .u8 0, .int .i64 0, .bool false, .bool false, .bool false, .int .i64 0, .int .i64 0, .int .u8 0, .int .u16 0], .bool false])
theorem kinds_go (v m : Int) (one three five none_ ram bat clk okv : Bool) (hone : aH.f 20 [1, 2, 3] v = some one) (hthree : aH.f 20 [15, 16, 17, 18, 19] v = some three) (hfive : aH.f 20 [25, 26, 27, 28, 29, 30] v = some five) (hnone : aH.f 20 [0, 8, 9] v = some none_) (hram : aH.f 20 [2, 3, 8, 9, 16, 18, 19, 26, 27, 29, 30] v = some ram) (hbat : aH.f 20 [3, 9, 15, 16, 19, 27, 30] v = some bat) (hclk : aH.f 20 [15, 16] v = some clk) (hx : (one = true ∧ three = false ∧ five = false ∧ none_ = false ∧ m = 1 ∧ okv = true) ∨ (one = false ∧ three = true ∧ five = false ∧ none_ = false ∧ m = 3 ∧ okv = true) ∨ (one = false ∧ three = false ∧ five = true ∧ none_ = false ∧ m = 5 ∧ okv = true) ∨ (one = false ∧ three = false ∧ five = false ∧ none_ = true ∧ m = 0 ∧ okv = true) ∨ (one = false ∧ three = false ∧ five = false ∧ none_ = false ∧ m = 0 ∧ okv = false)) (w : World) :
    Calls Try.prog 60 #[.int .u8 v] w fun e w' => e = .returned (kindsV v m ram bat clk okv) ∧ Below w.heap.size w w' := by
  have Hone := ab.mk hone
  have Hthree := ab.mk hthree
  have Hfive := ab.mk hfive
  have Hnone := ab.mk hnone
  have Hram := ab.mk hram
  have Hbat := ab.mk hbat
  have Hclk := ab.mk hclk
  have HX := ab.mk hx
  clear hx hone hthree hfive hnone hram hbat hclk
  go_enter Try.func60, Try.ntmps60
  go_wp2_with fail
  have b0 := (bR.new w [.string ⟨#[]⟩, .int .u8 0, .int .i64 0, .bool false, .bool false, .bool false, .int .i64 0, .int .i64 0, .int .u8 0, .int .u16 0] rfl).alloc (.cells #[.string ⟨#[]⟩, .int .u8 v, .int .i64 0, .bool false, .bool false, .bool false, .int .i64 0, .int .i64 0, .int .u8 0, .int .u16 0] 30)
  have b1 := HAt.new (w.alloc (.cells #[.string ⟨#[]⟩, .int .u8 0, .int .i64 0, .bool false, .bool false, .bool false, .int .i64 0, .int .i64 0, .int .u8 0, .int .u16 0] 30)) (⟨⟨#[]⟩, v, 0, false, false, false, 0, 0, 0, 0⟩ : Hd)
  have hz : (w.alloc (.cells #[.string ⟨#[]⟩, .int .u8 0, .int .i64 0, .bool false, .bool false, .bool false, .int .i64 0, .int .i64 0, .int .u8 0, .int .u16 0] 30)).heap.size = w.heap.size + 1 := by simp
  rw [hz] at b1
  have hB := ac (ac (Below.refl w.heap.size w) (.cells #[.string ⟨#[]⟩, .int .u8 0, .int .i64 0, .bool false, .bool false, .bool false, .int .i64 0, .int .i64 0, .int .u8 0, .int .u16 0] 30)) (.cells #[.string ⟨#[]⟩, .int .u8 v, .int .i64 0, .bool false, .bool false, .bool false, .int .i64 0, .int .i64 0, .int .u8 0, .int .u16 0] 30)
  have hz2 : ((w.alloc (.cells #[.string ⟨#[]⟩, .int .u8 0, .int .i64 0, .bool false, .bool false, .bool false, .int .i64 0, .int .i64 0, .int .u8 0, .int .u16 0] 30)).alloc (.cells #[.string ⟨#[]⟩, .int .u8 v, .int .i64 0, .bool false, .bool false, .bool false, .int .i64 0, .int .i64 0, .int .u8 0, .int .u16 0] 30)).heap.size = w.heap.size + 1 + 1 := by simp
  replace b0 : bR ((w.alloc (.cells #[.string ⟨#[]⟩, .int .u8 0, .int .i64 0, .bool false, .bool false, .bool false, .int .i64 0, .int .i64 0, .int .u8 0, .int .u16 0] 30)).alloc (.cells #[.string ⟨#[]⟩, .int .u8 v, .int .i64 0, .bool false, .bool false, .bool false, .int .i64 0, .int .i64 0, .int .u8 0, .int .u16 0] 30)) w.heap.size := b0
  replace b1 : HAt ((w.alloc (.cells #[.string ⟨#[]⟩, .int .u8 0, .int .i64 0, .bool false, .bool false, .bool false, .int .i64 0, .int .i64 0, .int .u8 0, .int .u16 0] 30)).alloc (.cells #[.string ⟨#[]⟩, .int .u8 v, .int .i64 0, .bool false, .bool false, .bool false, .int .i64 0, .int .i64 0, .int .u8 0, .int .u16 0] 30)) (w.heap.size + 1) (⟨⟨#[]⟩, v, 0, false, false, false, 0, 0, 0, 0⟩ : Hd) := b1
  generalize (w.alloc (.cells #[.string ⟨#[]⟩, .int .u8 0, .int .i64 0, .bool false, .bool false, .bool false, .int .i64 0, .int .i64 0, .int .u8 0, .int .u16 0] 30)).alloc (.cells #[.string ⟨#[]⟩, .int .u8 v, .int .i64 0, .bool false, .bool false, .bool false, .int .i64 0, .int .i64 0, .int .u8 0, .int .u16 0] 30) = u0 at b0 b1 hB hz2 ⊢
  rw [← hz2]
  have B0 := ab.mk b0
  have B1 := ab.mk b1
  have HB := ab.mk hB
  clear b0 b1 hB hz hz2
  refine (in_put Hone.out 3 (by decide) (by decide) _ rfl u0).mono ?_
  rintro e' u1 ⟨rfl, hb⟩
  have X0 := ab.mk ((B0.out.alloc (.cells #[.int .u8 1, .int .u8 2, .int .u8 3] 5)).below hb)
  have X1 := ab.mk ((B1.out.alloc (.cells #[.int .u8 1, .int .u8 2, .int .u8 3] 5)).below hb)
  have X2 := ab.mk (ak (ac HB.out (.cells #[.int .u8 1, .int .u8 2, .int .u8 3] 5)) hb)
  clear B0 B1 HB hb
  have B0 := X0
  have B1 := X1
  have HB := X2
  clear X0 X1 X2
  go_wp2_with fail
  refine (in_put Hthree.out 5 (by decide) (by decide) _ rfl u1).mono ?_
  rintro e' u2 ⟨rfl, hb⟩
  have X0 := ab.mk ((B0.out.alloc (.cells #[.int .u8 15, .int .u8 16, .int .u8 17, .int .u8 18, .int .u8 19] 5)).below hb)
  have X1 := ab.mk ((B1.out.alloc (.cells #[.int .u8 15, .int .u8 16, .int .u8 17, .int .u8 18, .int .u8 19] 5)).below hb)
  have X2 := ab.mk (ak (ac HB.out (.cells #[.int .u8 15, .int .u8 16, .int .u8 17, .int .u8 18, .int .u8 19] 5)) hb)
  clear B0 B1 HB hb
  have B0 := X0
  have B1 := X1
  have HB := X2
  clear X0 X1 X2
  go_wp2_with fail
  refine (in_put Hfive.out 6 (by decide) (by decide) _ rfl u2).mono ?_
  rintro e' u3 ⟨rfl, hb⟩
  have X0 := ab.mk ((B0.out.alloc (.cells #[.int .u8 25, .int .u8 26, .int .u8 27, .int .u8 28, .int .u8 29, .int .u8 30] 5)).below hb)
  have X1 := ab.mk ((B1.out.alloc (.cells #[.int .u8 25, .int .u8 26, .int .u8 27, .int .u8 28, .int .u8 29, .int .u8 30] 5)).below hb)
  have X2 := ab.mk (ak (ac HB.out (.cells #[.int .u8 25, .int .u8 26, .int .u8 27, .int .u8 28, .int .u8 29, .int .u8 30] 5)) hb)
  clear B0 B1 HB hb
  have B0 := X0
  have B1 := X1
  have HB := X2
  clear X0 X1 X2
  go_wp2_with fail
  refine (in_put Hnone.out 3 (by decide) (by decide) _ rfl u3).mono ?_
  rintro e' u4 ⟨rfl, hb⟩
  have X0 := ab.mk ((B0.out.alloc (.cells #[.int .u8 0, .int .u8 8, .int .u8 9] 5)).below hb)
  have X1 := ab.mk ((B1.out.alloc (.cells #[.int .u8 0, .int .u8 8, .int .u8 9] 5)).below hb)
  have X2 := ab.mk (ak (ac HB.out (.cells #[.int .u8 0, .int .u8 8, .int .u8 9] 5)) hb)
  clear B0 B1 HB hb
  have B0 := X0
  have B1 := X1
  have HB := X2
  clear X0 X1 X2
  rcases HX.out with ⟨rfl, rfl, rfl, rfl, hm, rfl⟩ | ⟨rfl, rfl, rfl, rfl, hm, rfl⟩ | ⟨rfl, rfl, rfl, rfl, hm, rfl⟩ | ⟨rfl, rfl, rfl, rfl, hm, rfl⟩ | ⟨rfl, rfl, rfl, rfl, hm, rfl⟩
  all_goals
    clear HX
    have HM := ab.mk hm
    clear hm
    have c2 : u4.cell? ⟨w.heap.size + 1, 2, none⟩ = some (.int .i64 0) := (aa B1.out 2).trans rfl
    have fz : ∀ i, u4.frozen? ⟨w.heap.size + 1, i, none⟩ = false := fun i => ae B1.out i
    go_wp2_with fail
    clear c2 fz
    first
      | (rw [show (Value.int .i64 1) = .int .i64 m by rw [HM.out]]
         have hsz : (u4.setCell ⟨w.heap.size + 1, 2, none⟩ (.int .i64 m)).heap.size = u4.heap.size := by simp
         have Y0 := ab.mk (B0.out.far1 (g := w.heap.size + 1) (Nat.ne_of_lt (Nat.lt_succ_self _)) 2 (.int .i64 m))
         have Y1 := ab.mk (show HAt (u4.setCell ⟨w.heap.size + 1, 2, none⟩ (.int .i64 m)) (w.heap.size + 1) (⟨⟨#[]⟩, v, m, false, false, false, 0, 0, 0, 0⟩ : Hd) from an B1.out 2 (.int .i64 m) rfl)
         have Y2 := ab.mk (show Below w.heap.size w (u4.setCell ⟨w.heap.size + 1, 2, none⟩ (.int .i64 m)) from ag HB.out (Nat.le_succ _))
         generalize (u4.setCell ⟨w.heap.size + 1, 2, none⟩ (.int .i64 m)) = u5 at Y0 Y1 Y2 hsz ⊢
         rw [← hsz]
         clear hsz B0 B1 HB
         have B0 := Y0
         have B1 := Y1
         have HB := Y2
         clear Y0 Y1 Y2)
      | (rw [show (Value.int .i64 3) = .int .i64 m by rw [HM.out]]
         have hsz : (u4.setCell ⟨w.heap.size + 1, 2, none⟩ (.int .i64 m)).heap.size = u4.heap.size := by simp
         have Y0 := ab.mk (B0.out.far1 (g := w.heap.size + 1) (Nat.ne_of_lt (Nat.lt_succ_self _)) 2 (.int .i64 m))
         have Y1 := ab.mk (show HAt (u4.setCell ⟨w.heap.size + 1, 2, none⟩ (.int .i64 m)) (w.heap.size + 1) (⟨⟨#[]⟩, v, m, false, false, false, 0, 0, 0, 0⟩ : Hd) from an B1.out 2 (.int .i64 m) rfl)
         have Y2 := ab.mk (show Below w.heap.size w (u4.setCell ⟨w.heap.size + 1, 2, none⟩ (.int .i64 m)) from ag HB.out (Nat.le_succ _))
         generalize (u4.setCell ⟨w.heap.size + 1, 2, none⟩ (.int .i64 m)) = u5 at Y0 Y1 Y2 hsz ⊢
         rw [← hsz]
         clear hsz B0 B1 HB
         have B0 := Y0
         have B1 := Y1
         have HB := Y2
         clear Y0 Y1 Y2)
      | (rw [show (Value.int .i64 5) = .int .i64 m by rw [HM.out]]
         have hsz : (u4.setCell ⟨w.heap.size + 1, 2, none⟩ (.int .i64 m)).heap.size = u4.heap.size := by simp
         have Y0 := ab.mk (B0.out.far1 (g := w.heap.size + 1) (Nat.ne_of_lt (Nat.lt_succ_self _)) 2 (.int .i64 m))
         have Y1 := ab.mk (show HAt (u4.setCell ⟨w.heap.size + 1, 2, none⟩ (.int .i64 m)) (w.heap.size + 1) (⟨⟨#[]⟩, v, m, false, false, false, 0, 0, 0, 0⟩ : Hd) from an B1.out 2 (.int .i64 m) rfl)
         have Y2 := ab.mk (show Below w.heap.size w (u4.setCell ⟨w.heap.size + 1, 2, none⟩ (.int .i64 m)) from ag HB.out (Nat.le_succ _))
         generalize (u4.setCell ⟨w.heap.size + 1, 2, none⟩ (.int .i64 m)) = u5 at Y0 Y1 Y2 hsz ⊢
         rw [← hsz]
         clear hsz B0 B1 HB
         have B0 := Y0
         have B1 := Y1
         have HB := Y2
         clear Y0 Y1 Y2)
      | (have Y1 := ab.mk (show HAt u4 (w.heap.size + 1) (⟨⟨#[]⟩, v, m, false, false, false, 0, 0, 0, 0⟩ : Hd) by rw [HM.out]; exact B1.out)
         clear B1
         have B1 := Y1
         clear Y1
         generalize u4 = u5 at B0 B1 HB ⊢)
    clear HM
    refine (in_put Hram.out 11 (by decide) (by decide) _ rfl u5).mono ?_
    rintro e' u6 ⟨rfl, hb⟩
    have X0 := ab.mk ((B0.out.alloc (.cells #[.int .u8 2, .int .u8 3, .int .u8 8, .int .u8 9, .int .u8 16, .int .u8 18, .int .u8 19, .int .u8 26, .int .u8 27, .int .u8 29, .int .u8 30] 5)).below hb)
    have X1 := ab.mk ((B1.out.alloc (.cells #[.int .u8 2, .int .u8 3, .int .u8 8, .int .u8 9, .int .u8 16, .int .u8 18, .int .u8 19, .int .u8 26, .int .u8 27, .int .u8 29, .int .u8 30] 5)).below hb)
    have X2 := ab.mk (ak (ac HB.out (.cells #[.int .u8 2, .int .u8 3, .int .u8 8, .int .u8 9, .int .u8 16, .int .u8 18, .int .u8 19, .int .u8 26, .int .u8 27, .int .u8 29, .int .u8 30] 5)) hb)
    clear B0 B1 HB hb
    have B0 := X0
    have B1 := X1
    have HB := X2
    clear X0 X1 X2
    have c3 : u6.cell? ⟨w.heap.size + 1, 3, none⟩ = some (.bool false) := (aa B1.out 3).trans rfl
    have fz : ∀ i, u6.frozen? ⟨w.heap.size + 1, i, none⟩ = false := fun i => ae B1.out i
    go_wp2_with fail
    clear c3 fz
    have hsz : (u6.setCell ⟨w.heap.size + 1, 3, none⟩ (.bool ram)).heap.size = u6.heap.size := by simp
    have Y0 := ab.mk (B0.out.far1 (g := w.heap.size + 1) (Nat.ne_of_lt (Nat.lt_succ_self _)) 3 (.bool ram))
    have Y1 := ab.mk (show HAt (u6.setCell ⟨w.heap.size + 1, 3, none⟩ (.bool ram)) (w.heap.size + 1) (⟨⟨#[]⟩, v, m, ram, false, false, 0, 0, 0, 0⟩ : Hd) from an B1.out 3 (.bool ram) rfl)
    have Y2 := ab.mk (show Below w.heap.size w (u6.setCell ⟨w.heap.size + 1, 3, none⟩ (.bool ram)) from ag HB.out (Nat.le_succ _))
    generalize (u6.setCell ⟨w.heap.size + 1, 3, none⟩ (.bool ram)) = u7 at Y0 Y1 Y2 hsz ⊢
    rw [← hsz]
    clear hsz B0 B1 HB
    have B0 := Y0
    have B1 := Y1
    have HB := Y2
    clear Y0 Y1 Y2
    refine (in_put Hbat.out 7 (by decide) (by decide) _ rfl u7).mono ?_
    rintro e' u8 ⟨rfl, hb⟩
    have X0 := ab.mk ((B0.out.alloc (.cells #[.int .u8 3, .int .u8 9, .int .u8 15, .int .u8 16, .int .u8 19, .int .u8 27, .int .u8 30] 5)).below hb)
    have X1 := ab.mk ((B1.out.alloc (.cells #[.int .u8 3, .int .u8 9, .int .u8 15, .int .u8 16, .int .u8 19, .int .u8 27, .int .u8 30] 5)).below hb)
    have X2 := ab.mk (ak (ac HB.out (.cells #[.int .u8 3, .int .u8 9, .int .u8 15, .int .u8 16, .int .u8 19, .int .u8 27, .int .u8 30] 5)) hb)
    clear B0 B1 HB hb
    have B0 := X0
    have B1 := X1
    have HB := X2
    clear X0 X1 X2
    have c4 : u8.cell? ⟨w.heap.size + 1, 4, none⟩ = some (.bool false) := (aa B1.out 4).trans rfl
    have fz : ∀ i, u8.frozen? ⟨w.heap.size + 1, i, none⟩ = false := fun i => ae B1.out i
    go_wp2_with fail
    clear c4 fz
    have hsz : (u8.setCell ⟨w.heap.size + 1, 4, none⟩ (.bool bat)).heap.size = u8.heap.size := by simp
    have Y0 := ab.mk (B0.out.far1 (g := w.heap.size + 1) (Nat.ne_of_lt (Nat.lt_succ_self _)) 4 (.bool bat))
    have Y1 := ab.mk (show HAt (u8.setCell ⟨w.heap.size + 1, 4, none⟩ (.bool bat)) (w.heap.size + 1) (⟨⟨#[]⟩, v, m, ram, bat, false, 0, 0, 0, 0⟩ : Hd) from an B1.out 4 (.bool bat) rfl)
    have Y2 := ab.mk (show Below w.heap.size w (u8.setCell ⟨w.heap.size + 1, 4, none⟩ (.bool bat)) from ag HB.out (Nat.le_succ _))
    generalize (u8.setCell ⟨w.heap.size + 1, 4, none⟩ (.bool bat)) = u9 at Y0 Y1 Y2 hsz ⊢
    rw [← hsz]
    clear hsz B0 B1 HB
    have B0 := Y0
    have B1 := Y1
    have HB := Y2
    clear Y0 Y1 Y2
    refine (in_put Hclk.out 2 (by decide) (by decide) _ rfl u9).mono ?_
    rintro e' u10 ⟨rfl, hb⟩
    have X0 := ab.mk ((B0.out.alloc (.cells #[.int .u8 15, .int .u8 16] 5)).below hb)
    have X1 := ab.mk ((B1.out.alloc (.cells #[.int .u8 15, .int .u8 16] 5)).below hb)
    have X2 := ab.mk (ak (ac HB.out (.cells #[.int .u8 15, .int .u8 16] 5)) hb)
    clear B0 B1 HB hb
    have B0 := X0
    have B1 := X1
    have HB := X2
    clear X0 X1 X2
    have c5 : u10.cell? ⟨w.heap.size + 1, 5, none⟩ = some (.bool false) := (aa B1.out 5).trans rfl
    have fz : ∀ i, u10.frozen? ⟨w.heap.size + 1, i, none⟩ = false := fun i => ae B1.out i
    have hth := ab.mk (show (u10.setCell ⟨w.heap.size + 1, 5, none⟩ (.bool clk)).there w.heap.size 0 10 from bR.there (B0.out.far1 (g := w.heap.size + 1) (Nat.ne_of_lt (Nat.lt_succ_self _)) 5 (.bool clk)))
    have hra := ab.mk (HAt.range (show HAt (u10.setCell ⟨w.heap.size + 1, 5, none⟩ (.bool clk)) (w.heap.size + 1) (⟨⟨#[]⟩, v, m, ram, bat, clk, 0, 0, 0, 0⟩ : Hd) from an B1.out 5 (.bool clk) rfl))
    have y2 := ab.mk (show Below w.heap.size w (u10.setCell ⟨w.heap.size + 1, 5, none⟩ (.bool clk)) from ag HB.out (Nat.le_succ _))
    have y0 := ab.mk (B0.out.far1 (g := w.heap.size + 1) (Nat.ne_of_lt (Nat.lt_succ_self _)) 5 (.bool clk))
    clear B0
    first
      | (go_wp2_with (first
          | ((with_reducible refine ar (N := 56) rfl ?_); refine wpList_load_mid rfl 30 (.tmp 4) rfl (w.heap.size + 1) 0 rfl (⟨⟨#[]⟩, v, m, ram, bat, clk, 0, 0, 0, 0⟩ : Hd).cells _ hra.out rfl rfl (by kernel_rfl) ?_; simp only [Act.put, List.setIfInBounds_toArray, List.set_cons_zero, List.set_cons_succ])
          | ((with_reducible refine az (t := 30) (p := 2) (v := .tmp 56) rfl ?_); have z0 := ab.mk (y0.out.fillZ (⟨⟨#[]⟩, v, m, ram, bat, clk, 0, 0, 0, 0⟩ : Hd).cells rfl); have z1 := ab.mk (ay y2.out w.heap.size 0 (Nat.le_refl _) (⟨⟨#[]⟩, v, m, ram, bat, clk, 0, 0, 0, 0⟩ : Hd).cells); refine wpList_store_mid rfl 30 (.tmp 2) (.tmp 56) rfl w.heap.size 0 (List.toArray (⟨⟨#[]⟩, v, m, ram, bat, clk, 0, 0, 0, 0⟩ : Hd).cells) rfl rfl hth.out (by kernel_rfl) (Hd.one _) ?_; generalize World.setCells _ w.heap.size 0 _ = Y at z0 z1 ⊢; simp only [Act.put, List.setIfInBounds_toArray, List.set_cons_zero, List.set_cons_succ]))
         have z2 := z0.out
         exact bodyPost_ret (v := .tuple #[.agg #[.string ⟨#[]⟩, .int .u8 v, .int .i64 m, .bool ram, .bool bat, .bool clk, .int .i64 0, .int .i64 0, .int .u8 0, .int .u16 0], .bool true]) (by simp [results, Try.results60, go_sem, aa z2]) rfl ⟨rfl, z1.out⟩)
      | (go_wp2_with (first
          | ((with_reducible refine az (t := 30) (p := 2) (v := .tmp 55) rfl ?_); have z0 := ab.mk (y0.out.fillZ [.string ⟨#[]⟩, .int .u8 0, .int .i64 0, .bool false, .bool false, .bool false, .int .i64 0, .int .i64 0, .int .u8 0, .int .u16 0] rfl); have z1 := ab.mk (ay y2.out w.heap.size 0 (Nat.le_refl _) [.string ⟨#[]⟩, .int .u8 0, .int .i64 0, .bool false, .bool false, .bool false, .int .i64 0, .int .i64 0, .int .u8 0, .int .u16 0]); refine wpList_store_mid rfl 30 (.tmp 2) (.tmp 55) rfl w.heap.size 0 (List.toArray [.string ⟨#[]⟩, .int .u8 0, .int .i64 0, .bool false, .bool false, .bool false, .int .i64 0, .int .i64 0, .int .u8 0, .int .u16 0]) rfl rfl hth.out (by kernel_rfl) (by simp [Value.oneCell']) ?_; generalize World.setCells _ w.heap.size 0 _ = Y at z0 z1 ⊢; simp only [Act.put, List.setIfInBounds_toArray, List.set_cons_zero, List.set_cons_succ]))
         have z2 := z0.out
         exact bodyPost_ret (v := .tuple #[.agg #[.string ⟨#[]⟩, .int .u8 0, .int .i64 0, .bool false, .bool false, .bool false, .int .i64 0, .int .i64 0, .int .u8 0, .int .u16 0], .bool false]) (by simp [results, Try.results60, go_sem, aa z2]) rfl ⟨rfl, z1.out⟩)
theorem kinds_calls (v : Int) (hv : 0 ≤ v ∧ v ≤ 255) (w : World) :
  Calls Try.prog 60 #[.int .u8 v] w fun e w' => e = .returned (.tuple #[.agg #[.string ⟨#[]⟩, .int .u8 (if (am v).2.2.2.2 = true then v else 0), .int .i64 (am v).1, .bool (am v).2.1, .bool (am v).2.2.1, .bool (am v).2.2.2.1, .int .i64 0, .int .i64 0, .int .u8 0, .int .u16 0], .bool (am v).2.2.2.2]) ∧ Below w.heap.size w w' := by
 have hlt : v.toNat < 256 := by omega
 have hi := in_all ⟨v.toNat, hlt⟩
 have hs := kinds_same ⟨v.toNat, hlt⟩
 have hc : ((v.toNat : Nat) : Int) = v := Int.toNat_of_nonneg hv.1
 simp only [hc] at hi hs
 obtain ⟨i1, i2, i3, i4, i5, i6, i7⟩ := hi
 obtain ⟨s1, s2, s3, d1, d2, d3, d4⟩ := hs
 generalize am v = x at s1 s2 s3 ⊢
 obtain ⟨x1, x2, x3, x4, x5⟩ := x
 dsimp only at s1 s2 s3 ⊢
 generalize [2, 3, 8, 9, 16, 18, 19, 26, 27, 29, 30].contains v = b5 at i5 s2
 generalize [3, 9, 15, 16, 19, 27, 30].contains v = b6 at i6 s2
 generalize [15, 16].contains v = b7 at i7 s2
 generalize [1, 2, 3].contains v = b1 at i1 s1 s2 d1 d2 d4
 generalize [15, 16, 17, 18, 19].contains v = b2 at i2 s1 s2 d1 d3 d4
 generalize [25, 26, 27, 28, 29, 30].contains v = b3 at i3 s1 s2 d2 d3 d4
 generalize [0, 8, 9].contains v = b4 at i4 s1 d4
 have A1 := kinds_go v 1 true false false false b5 b6 b7 true
 have A2 := kinds_go v 3 false true false false b5 b6 b7 true
 have A3 := kinds_go v 5 false false true false b5 b6 b7 true
 have A4 := kinds_go v 0 false false false true b5 b6 b7 true
 have A5 := kinds_go v 0 false false false false b5 b6 b7 false
 cases b1 <;> cases b2 <;> cases b3 <;> cases b4 <;> simp at d1 d2 d3 d4 s1 s2 s3 <;> subst s1 <;> simp at s2 s3
 ·obtain ⟨rfl, rfl, rfl, rfl⟩ := s3
  exact A5 i1 i2 i3 i4 i5 i6 i7 (by simp) w
 ·obtain ⟨rfl, rfl, rfl, rfl⟩ := s2
  exact A4 i1 i2 i3 i4 i5 i6 i7 (by simp) w
 ·obtain ⟨rfl, rfl, rfl, rfl⟩ := s2
  exact A3 i1 i2 i3 i4 i5 i6 i7 (by simp) w
 ·obtain ⟨rfl, rfl, rfl, rfl⟩ := s2
  exact A2 i1 i2 i3 i4 i5 i6 i7 (by simp) w
 ·obtain ⟨rfl, rfl, rfl, rfl⟩ := s2
  exact A1 i1 i2 i3 i4 i5 i6 i7 (by simp) w
end Go.Proofs.Ytmjjojbedllmgaa.Hand
namespace Go.Proofs.Ytmjjojbedllmgaa.G
def aD.l0 : Nat → Int → Int → Int → Option (Int)
 | 0, _, _, _ => none
 | k + 1, x0, x3, x4 => if x4 < x0 then (if x4 < 9 then (aD.l0 k x0 (wrap64 (x3 * 2)) ((x4 + 1) % 256)) else (some x3)) else (some x3)
def aD.f (k : Nat) (a0 : Int) : Option (Int) := aD.l0 k a0 32768 0
theorem aD.mono_l : ∀ k, (∀ y0 y1 y2, LeO (aD.l0 k y0 y1 y2) (aD.l0 (k + 1) y0 y1 y2))
 | 0 => fun _ _ _ r h => by simp [aD.l0] at h
 | k + 1 => by
  have ih0 := aD.mono_l k
  ·intro y0 y1 y2
   unfold aD.l0
   repeat' first
   | (with_reducible exact ih0 _ _ _)
   | (with_reducible exact LeO.refl _)
   | (with_reducible exact LeO.none _)
   | (with_reducible refine LeO.ite ?_ ?_)
   | (with_reducible refine LeO.bind ?_ (fun _ => ?_))
   | exact ih0 _ _ _
   | exact LeO.none _
   | refine LeO.ite ?_ ?_
   | refine LeO.bind ?_ (fun _ => ?_)
theorem aD.mono : ∀ a0 k, LeO (aD.f k a0) (aD.f (k + 1) a0) := by
 intro a0 k
 have ih0 := aD.mono_l k
 unfold aD.f
 repeat' first
   | (with_reducible exact ih0 _ _ _)
   | (with_reducible exact LeO.refl _)
   | (with_reducible exact LeO.none _)
   | (with_reducible refine LeO.ite ?_ ?_)
   | (with_reducible refine LeO.bind ?_ (fun _ => ?_))
   | exact ih0 _ _ _
   | exact LeO.none _
   | refine LeO.ite ?_ ?_
   | refine LeO.bind ?_ (fun _ => ?_)
theorem aD.calls (k : Nat) (a0 : Int) (r : Int) (w : World) (h : aD.f k a0 = some r) :
  Calls Try.prog 61 #[.int .u8 a0] w fun e w' => e = .returned (.int .i64 r) ∧ aM w w' := by
 have H : (aD.l0 k a0 32768 0) = some r := h
 clear h
 have H' := ab.mk H
 clear H
 go_enter Try.func61, Try.ntmps61
 go_wp2
 go_loopg [3, 4] k (fun kq v3 v4 w' => ∃ (x3_1 : Int) (x4_1 : Int), v3 = .int .i64 x3_1 ∧ v4 = .int .u8 x4_1 ∧ ab (aD.l0 kq a0 x3_1 x4_1 = some r) ∧ ab (kq ≤ k) ∧ aM w w')
 case atStart => exact ⟨(32768), (0), (by first | rfl | (simp; done) | (simp [*]; done)), (by first | rfl | (simp; done) | (simp [*]; done)), H', ⟨Nat.le_refl _⟩, by repeat (first | exact aM.refl _ | apply aM.step)⟩
 case round =>
  clear H'
  obtain ⟨x3_1, x4_1, rfl, rfl, HA, HK1, ⟨m1, rfl⟩⟩ := hrel
  cases gk with
  | zero => exact absurd HA.out (by simp [aD.l0])
  | succ k1 =>
   have H := HA.out
   clear HA
   simp only [aD.l0] at H
   by_cases c2 : x4_1 < a0
   ·rw [if_pos c2] at H
    have c2b0 : decide (x4_1 < a0) = true := decide_eq_true c2
    clear c2
    by_cases c3 : x4_1 < 9
    ·rw [if_pos c3] at H
     have c3b0 : decide (x4_1 < 9) = true := decide_eq_true c3
     clear c3
     have H' := ab.mk H
     clear H
     go_wp2
     go_roundg k1
     case measure => have := HK1.out; omega
     case rel => exact ⟨(wrap64 (x3_1 * 2)), ((x4_1 + 1) % 256), (by first | rfl | (simp; done) | (simp [*]; done)), (by first | rfl | (simp; done) | (simp [*]; done)), H', ⟨by have := HK1.out; omega⟩, by repeat (first | exact aM.refl _ | apply aM.step)⟩
    ·rw [if_neg c3] at H
     have c3b0 : decide (x4_1 < 9) = false := decide_eq_false c3
     clear c3
     obtain rfl := Option.some.inj H
     go_wp2
     go_ret
     exact ⟨by first | rfl | (simp; done) | (simp [*]; done), by repeat (first | exact aM.refl _ | apply aM.step)⟩
   ·rw [if_neg c2] at H
    have c2b0 : decide (x4_1 < a0) = false := decide_eq_false c2
    clear c2
    obtain rfl := Option.some.inj H
    go_wp2
    go_ret
    exact ⟨by first | rfl | (simp; done) | (simp [*]; done), by repeat (first | exact aM.refl _ | apply aM.step)⟩
def aX.l0 : Nat → List Int → Int → Int → Option (Int × Int)
 | 0, _, _, _ => none
 | k + 1, x0, x4, x5 => if x5 ≤ 332 then (if 0 ≤ x5 then (if x5 < (x0.length : Int) then (aX.l0 k x0 (Int.tmod (wrap64 ((wrap64 ((wrap64 (x4 + 512)) - (wrap64 (rd x0 x5)))) - 1)) 256) (wrap64 (x5 + 1))) else (none)) else (none)) else (some ((x4) % 256, 0))
def aX.f (k : Nat) (l0 : List Int) : Option (Int × Int) := if (l0.length : Int) < 336 then (some (0, 2)) else (aX.l0 k l0 0 308)
theorem aX.calls (k : Nat) (A0 : Option Addr) (c0 : Nat) (l0 : List Int) (r1 : Int) (r2 : Int) (w : World) (hr0 : Kd.C (Kd.int .u8) w A0 l0.length l0) (hc0 : l0.length ≤ c0) (h : aX.f k l0 = some (r1, r2)) :
  Calls Try.prog 62 #[.slice A0 l0.length c0] w fun e w' => e = .returned (.tuple #[.int .u8 r1, .int .i64 r2]) ∧ aM w w' := by
 have HR0 := ab.mk hr0
 have HC0 := ab.mk hc0
 clear hr0 hc0
 have H : (if (l0.length : Int) < 336 then (some (0, 2)) else (aX.l0 k l0 0 308)) = some (r1, r2) := h
 clear h
 by_cases c2 : (l0.length : Int) < 336
 ·rw [if_pos c2] at H
  have c2b0 : decide ((l0.length : Int) < 336) = true := decide_eq_true c2
  have c2b1 : decide (l0.length < 336) = true := decide_eq_true (by omega)
  clear c2
  simp only [Option.some.injEq, Prod.mk.injEq] at H
  obtain ⟨rfl, rfl⟩ := H
  go_enter Try.func62, Try.ntmps62
  go_wp2
  go_ret2
  exact ⟨by first | rfl | (simp; done) | (simp [*]; done), by repeat (first | exact aM.refl _ | apply aM.step)⟩
 ·rw [if_neg c2] at H
  have c2b0 : decide ((l0.length : Int) < 336) = false := decide_eq_false c2
  have c2b1 : decide (l0.length < 336) = false := decide_eq_false (by omega)
  clear c2
  have H' := ab.mk H
  clear H
  go_enter Try.func62, Try.ntmps62
  go_wp2
  go_loopg [4, 5] k (fun kq v4 v5 w' => ∃ (x4_1 : Int) (x5_1 : Int), v4 = .int .i64 x4_1 ∧ v5 = .int .i64 x5_1 ∧ ab (aX.l0 kq l0 x4_1 x5_1 = some (r1, r2)) ∧ ab (kq ≤ k) ∧ aM w w')
  case atStart => exact ⟨(0), (308), (by first | rfl | (simp; done) | (simp [*]; done)), (by first | rfl | (simp; done) | (simp [*]; done)), H', ⟨Nat.le_refl _⟩, by repeat (first | exact aM.refl _ | apply aM.step)⟩
  case round =>
   clear H'
   try clear c2
   try clear c2b0
   try clear c2b1
   try clear p2
   obtain ⟨x4_1, x5_1, rfl, rfl, HA, HK1, ⟨m1, rfl⟩⟩ := hrel
   cases gk with
   | zero => exact absurd HA.out (by simp [aX.l0])
   | succ k1 =>
    have H := HA.out
    clear HA
    simp only [aX.l0] at H
    by_cases c3 : x5_1 ≤ 332
    ·rw [if_pos c3] at H
     have c3b0 : decide (x5_1 ≤ 332) = true := decide_eq_true c3
     clear c3
     by_cases c4 : 0 ≤ x5_1
     ·rw [if_pos c4] at H
      have c4b0 : decide (0 ≤ x5_1) = true := decide_eq_true c4
      clear c4
      by_cases c5 : x5_1 < (l0.length : Int)
      ·rw [if_pos c5] at H
       have c5b0 : decide (x5_1 < (l0.length : Int)) = true := decide_eq_true c5
       clear c5
       have H' := ab.mk H
       clear H
       have p162 : 0 ≤ (x5_1 : Int) := of_decide_eq_true (by first | (with_reducible assumption) | assumption)
       have q162 : x5_1 < (l0.length : Int) := of_decide_eq_true (by first | (with_reducible assumption) | assumption)
       obtain ⟨ad162, e162, hx162_0⟩ := Kd.at_int HR0.out x5_1 p162 q162
       cases e162
       replace p162 := eq_true p162
       replace q162 := eq_true q162
       go_wp2
       go_roundg k1
       case measure => have := HK1.out; omega
       case rel => exact ⟨(Int.tmod (wrap64 ((wrap64 ((wrap64 (x4_1 + 512)) - (wrap64 (rd l0 x5_1)))) - 1)) 256), (wrap64 (x5_1 + 1)), (by first | rfl | (simp; done) | (simp [*]; done)), (by first | rfl | (simp; done) | (simp [*]; done)), H', ⟨by have := HK1.out; omega⟩, by repeat (first | exact aM.refl _ | apply aM.step)⟩
      ·rw [if_neg c5] at H
       exact absurd H (by simp)
     ·rw [if_neg c4] at H
      exact absurd H (by simp)
    ·rw [if_neg c3] at H
     have c3b0 : decide (x5_1 ≤ 332) = false := decide_eq_false c3
     clear c3
     simp only [Option.some.injEq, Prod.mk.injEq] at H
     obtain ⟨rfl, rfl⟩ := H
     go_wp2
     go_ret2
     exact ⟨by first | rfl | (simp; done) | (simp [*]; done), by repeat (first | exact aM.refl _ | apply aM.step)⟩
def bN.f (a0 : Int) : Option (Bool) := if a0 ≥ 32 then (some (decide (a0 ≤ 126))) else (some false)
theorem bN.calls (a0 : Int) (r : Bool) (w : World) (h : bN.f a0 = some r) :
  Calls Try.prog 63 #[.int .u8 a0] w fun e w' => e = .returned (.bool r) ∧ aM w w' := by
 have H : (if a0 ≥ 32 then (some (decide (a0 ≤ 126))) else (some false)) = some r := h
 clear h
 by_cases c2 : a0 ≥ 32
 ·rw [if_pos c2] at H
  have c2b0 : decide (32 ≤ a0) = true := decide_eq_true c2
  clear c2
  obtain rfl := Option.some.inj H
  go_enter Try.func63, Try.ntmps63
  go_wp2
  go_ret
  exact ⟨by first | rfl | (simp; done) | (simp [*]; done), by repeat (first | exact aM.refl _ | apply aM.step)⟩
 ·rw [if_neg c2] at H
  have c2b0 : decide (32 ≤ a0) = false := decide_eq_false c2
  clear c2
  obtain rfl := Option.some.inj H
  go_enter Try.func63, Try.ntmps63
  go_wp2
  go_ret
  exact ⟨by first | rfl | (simp; done) | (simp [*]; done), by repeat (first | exact aM.refl _ | apply aM.step)⟩
end Go.Proofs.Ytmjjojbedllmgaa.G
section
namespace Go.Proofs.Ytmjjojbedllmgaa.Pure
open Go.Proofs.Ytmjjojbedllmgaa.Hand
theorem more {α : Type} {f : Nat → Option α} (mono : ∀ k, LeO (f k) (f (k + 1))) {K : Nat} {r : α} (h : f K = some r) (k : Nat) (hk : K ≤ k) : f k = some r := by
 obtain ⟨j, rfl⟩ := Nat.exists_eq_add_of_le hk
 induction j with
 | zero => exact h
 | succ j ih => exact mono _ _ (ih (by omega))
theorem most_all : ∀ v : Fin 9, aD.f 12 (v.val : Int) = some (shl .i64 32768 (v.val : Int)) ∧ wrap64 (Int.tdiv (shl .i64 32768 (v.val : Int)) 16384) = wrap64 (2 * 2 ^ min (v.val : Int).toNat 64) := by decide +kernel
theorem most_is (r : Int) (h : 0 ≤ r ∧ r ≤ 8) : (∀ k, 12 ≤ k → aD.f k r = some (shl .i64 32768 r)) ∧ wrap64 (Int.tdiv (shl .i64 32768 r) 16384) = wrap64 (2 * 2 ^ min r.toNat 64) := by
 have q := most_all ⟨r.toNat, by omega⟩
 rw [show ((⟨r.toNat, by omega⟩ : Fin 9).val : Int) = r by show (r.toNat : Int) = r; omega] at q
 exact ⟨fun k hk => more (fun k => aD.mono r k) q.1 k hk, q.2⟩
theorem signs_is (b : Int) : bN.f b = some (prb b) := by
 unfold bN.f prb
 by_cases h : b ≥ 32
 ·rw [if_pos h, decide_eq_true h]; rfl
 ·rw [if_neg h, decide_eq_false h]; rfl
def bytes (l : List Int) : Prop := ∀ x ∈ l, 0 ≤ x ∧ x ≤ 255
theorem rd_byte {l : List Int} (h : bytes l) (i : Int) : 0 ≤ rd l i ∧ rd l i ≤ 255 := by
 unfold rd
 rw [List.getD_eq_getElem?_getD]
 cases e : l[i.toNat]? with
 | none => simp
 | some x => exact h x (List.mem_of_getElem? e)
theorem sumTo_byte (l : List Int) : ∀ j, 0 ≤ sumTo l j ∧ sumTo l j ≤ 255
 | 0 => by unfold sumTo; omega
 | j + 1 => by unfold sumTo; omega
theorem sum_step {l : List Int} (h : bytes l) (hl : 336 ≤ l.length) : ∀ m j k : Nat, j + m = 25 → m + 1 ≤ k → aX.l0 k l (sumTo l j) (308 + (j : Int)) = some (sumTo l 25, 0) := by
 intro m
 induction m with
 | zero =>
  intro j k hj hk
  obtain ⟨k', rfl⟩ : ∃ k', k = k' + 1 := ⟨k - 1, by omega⟩
  obtain rfl : j = 25 := by omega
  have b := sumTo_byte l 25
  rw [aX.l0, if_neg (by decide), show sumTo l 25 % 256 = sumTo l 25 by omega]
 | succ m ih =>
  intro j k hj hk
  obtain ⟨k', rfl⟩ : ∃ k', k = k' + 1 := ⟨k - 1, by omega⟩
  have b := sumTo_byte l j
  have r := rd_byte h (308 + (j : Int))
  rw [aX.l0, if_pos (by omega), if_pos (by omega), if_pos (by omega)]
  have e1 : wrap64 (sumTo l j + 512) = sumTo l j + 512 := wrap64_in (by omega)
  have e2 : wrap64 (rd l (308 + (j : Int))) = rd l (308 + (j : Int)) := wrap64_in (by omega)
  rw [e1, e2, wrap64_in (x := sumTo l j + 512 - rd l (308 + (j : Int))) (by omega), wrap64_in (x := sumTo l j + 512 - rd l (308 + (j : Int)) - 1) (by omega), Int.tmod_eq_emod_of_nonneg (by omega), wrap64_in (x := 308 + (j : Int) + 1) (by omega)]
  have q := ih (j + 1) k' (by omega) (by omega)
  have e3 : sumTo l (j + 1) = (sumTo l j + 512 - rd l (308 + (j : Int)) - 1) % 256 := by
   show (sumTo l j - (rd l ((308 + j : Nat) : Int) + 1) % 256) % 256 = _
   rw [show ((308 + j : Nat) : Int) = 308 + (j : Int) by omega]
   omega
  rw [e3, show (308 : Int) + ((j + 1 : Nat) : Int) = 308 + (j : Int) + 1 by omega] at q
  exact q
end Go.Proofs.Ytmjjojbedllmgaa.Pure
namespace Go.Proofs.Ytmjjojbedllmgaa.Hand
open Go.Proofs.Ytmjjojbedllmgaa.Pure
theorem head_val {l : List Int} {t : ByteArray} {kd mp : Int} {rm bt ck : Bool} {bk sz sm wh e : Int} (h : aU.f l = some (t, kd, mp, rm, bt, ck, bk, sz, sm, wh, e)) : bE l = ⟨t, kd, mp, rm, bt, ck, bk, sz, sm, wh⟩ ∧ headE l = e := by
 unfold bE headE
 rw [h]
 exact ⟨rfl, rfl⟩
theorem rparse_at (A : Option Addr) (c : Nat) (l : List Int) (hb : Bytes l) (w : World) (hr : Kd.C (Kd.int .u8) w A l.length l) (hc : l.length ≤ c) :
  Calls Try.prog 30 #[.slice A l.length c] w fun e' w' => e' = .returned (.tuple #[(bE l).v, .int .i64 (headE l)]) ∧ Below w.heap.size w w' := by
 have b7 := hb.bd 327
 have b8 := hb.bd 328
 have b9 := hb.bd 329
 by_cases h336 : 336 ≤ l.length
 case neg =>
  have hf : aU.f l = some ((⟨#[]⟩ : ByteArray), 0, 0, false, false, false, 0, 0, 0, 0, 2) := by
   unfold aU.f
   rw [if_neg (by omega)]
  obtain ⟨e1, e2⟩ := head_val hf
  rw [e1, e2]
  exact rp_short A c l h336 w
 have h1 : (336 : Int) ≤ l.length := by omega
 have hk := kinds_calls (rd l 327) b7
 cases hok : (am (rd l 327)).2.2.2.2
 case false =>
  have hf : aU.f l = some ((⟨#[]⟩ : ByteArray), 0, 0, false, false, false, 0, 0, 0, 0, 4) := by
   unfold aU.f
   rw [if_pos h1, if_pos ⟨b7.1, b7.2, b8.1, b9.1⟩, if_neg (by rw [hok]; decide)]
  obtain ⟨e1, e2⟩ := head_val hf
  rw [e1, e2]
  refine rp_kind A c l h336 w hr hc ⟨⟨#[]⟩, 0, (am (rd l 327)).1, (am (rd l 327)).2.1, (am (rd l 327)).2.2.1, (am (rd l 327)).2.2.2.1, 0, 0, 0, 0⟩ ?_
  intro w1
  have q := hk w1
  rw [hok, if_neg (by decide)] at q
  exact q
 have hk' : Puts 60 #[.int .u8 (rd l 327)] (.tuple #[.agg #[.string ⟨#[]⟩, .int .u8 (rd l 327), .int .i64 (am (rd l 327)).1, .bool (am (rd l 327)).2.1, .bool (am (rd l 327)).2.2.1, .bool (am (rd l 327)).2.2.2.1, .int .i64 0, .int .i64 0, .int .u8 0, .int .u16 0], .bool true]) := by
  intro w1
  have q := hk w1
  rw [hok, if_pos rfl] at q
  exact q
 by_cases h8 : 8 < rd l 328
 case pos =>
  have hf : aU.f l = some ((⟨#[]⟩ : ByteArray), 0, 0, false, false, false, 0, 0, 0, 0, 5) := by
   unfold aU.f
   rw [if_pos h1, if_pos ⟨b7.1, b7.2, b8.1, b9.1⟩, if_pos hok, if_neg (by omega)]
  obtain ⟨e1, e2⟩ := head_val hf
  rw [e1, e2]
  exact rp_size_a A c l h336 w hr hc ⟨⟨#[]⟩, rd l 327, (am (rd l 327)).1, (am (rd l 327)).2.1, (am (rd l 327)).2.2.1, (am (rd l 327)).2.2.2.1, 0, 0, 0, 0⟩ hk' (decide_eq_true h8)
 by_cases h5 : 5 < rd l 329
 case pos =>
  have hf : aU.f l = some ((⟨#[]⟩ : ByteArray), 0, 0, false, false, false, 0, 0, 0, 0, 5) := by
   unfold aU.f
   rw [if_pos h1, if_pos ⟨b7.1, b7.2, b8.1, b9.1⟩, if_pos hok, if_neg (by omega)]
  obtain ⟨e1, e2⟩ := head_val hf
  rw [e1, e2]
  exact rp_size_b A c l h336 w hr hc ⟨⟨#[]⟩, rd l 327, (am (rd l 327)).1, (am (rd l 327)).2.1, (am (rd l 327)).2.2.1, (am (rd l 327)).2.2.2.1, 0, 0, 0, 0⟩ hk' (decide_eq_false h8) (decide_eq_true h5)
 obtain ⟨m1, m2⟩ := most_is (rd l 328) ⟨b8.1, by omega⟩
 have hm : Puts 61 #[.int .u8 (rd l 328)] (.int .i64 (shl .i64 32768 (rd l 328))) := fun w1 => (aD.calls 12 _ _ w1 (m1 12 (Nat.le_refl _))).mono fun e w' ⟨he, hd⟩ => ⟨he, hd.below⟩
 by_cases hsz : shl .i64 32768 (rd l 328) < (l.length : Int)
 case pos =>
  have hf : aU.f l = some ((⟨#[]⟩ : ByteArray), 0, 0, false, false, false, 0, 0, 0, 0, 5) := by
   unfold aU.f
   rw [if_pos h1, if_pos ⟨b7.1, b7.2, b8.1, b9.1⟩, if_pos hok, if_neg (by omega)]
  obtain ⟨e1, e2⟩ := head_val hf
  rw [e1, e2]
  exact rp_size_c A c l h336 w hr hc ⟨⟨#[]⟩, rd l 327, (am (rd l 327)).1, (am (rd l 327)).2.1, (am (rd l 327)).2.2.1, (am (rd l 327)).2.2.2.1, 0, 0, 0, 0⟩ hk' (decide_eq_false h8) (decide_eq_false h5) _ hm (decide_eq_true hsz)
 have hsum : ∀ w1 : World, Below w.heap.size w w1 → Calls Try.prog 62 #[.slice A l.length c] w1 fun e' w' => e' = .returned (.tuple #[.int .u8 (sumTo l 25), .int .i64 0]) ∧ Below w1.heap.size w1 w' := by
  intro w1 hbw
  refine (aX.calls 30 A c l (sumTo l 25) 0 w1 (Kd.C_below hr hbw) hc ?_).mono fun e w' ⟨he, hd⟩ => ⟨he, hd.below⟩
  unfold aX.f
  rw [if_neg (by omega)]
  exact sum_step hb h336 25 0 30 rfl (by omega)
 by_cases hx : rd l 333 = sumTo l 25
 case neg =>
  have hf : aU.f l = some ((⟨#[]⟩ : ByteArray), 0, 0, false, false, false, 0, 0, 0, 0, 3) := by
   unfold aU.f
   rw [if_pos h1, if_pos ⟨b7.1, b7.2, b8.1, b9.1⟩, if_pos hok, if_pos (by omega), if_neg hx]
  obtain ⟨e1, e2⟩ := head_val hf
  rw [e1, e2]
  exact rp_sum A c l h336 w hr hc ⟨⟨#[]⟩, rd l 327, (am (rd l 327)).1, (am (rd l 327)).2.1, (am (rd l 327)).2.2.1, (am (rd l 327)).2.2.2.1, 0, 0, 0, 0⟩ hk' (decide_eq_false h8) (decide_eq_false h5) _ hm (decide_eq_false hsz) _ _ hsum (beq_eq_false_iff_ne.mpr fun q => hx q.symm)
 have hf : aU.f l = some ((strOfNums ((l.take (308 + aI l)).drop 308)), rd l 327, (am (rd l 327)).1, (am (rd l 327)).2.1, (am (rd l 327)).2.2.1, (am (rd l 327)).2.2.2.1, wrap64 (2 * 2 ^ min (rd l 328).toNat 64), ramT (am (rd l 327)).2.1 (rd l 329), rd l 333, (Go.bits .or .u16 (IntKind.u16.wrap (IntKind.u16.wrap (rd l 334) * 256)) (IntKind.u16.wrap (rd l 335))), 0) := by
  unfold aU.f
  rw [if_pos h1, if_pos ⟨b7.1, b7.2, b8.1, b9.1⟩, if_pos hok, if_pos (by omega), if_pos hx]
 obtain ⟨e1, e2⟩ := head_val hf
 rw [e1, e2, ← whole_or (rd l 334) (rd l 335) (hb.bd _) (hb.bd _)]
 rw [← hx] at hsum
 have hsg : ∀ v : Int, Puts 63 #[.int .u8 v] (.bool (prb v)) := fun v w1 => (bN.calls v _ w1 (signs_is v)).mono fun e w' ⟨he, hd⟩ => ⟨he, hd.below⟩
 exact rp_ok A c l h336 w hr hc ⟨⟨#[]⟩, rd l 327, (am (rd l 327)).1, (am (rd l 327)).2.1, (am (rd l 327)).2.2.1, (am (rd l 327)).2.2.2.1, 0, 0, 0, 0⟩ rfl _ hk' (decide_eq_false h8) (decide_eq_false h5) b9.1 _ hm m2 (decide_eq_false hsz) _ hsum hsg
end Go.Proofs.Ytmjjojbedllmgaa.Hand
end
