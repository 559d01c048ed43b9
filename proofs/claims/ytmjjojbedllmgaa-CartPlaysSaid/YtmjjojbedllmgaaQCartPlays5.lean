/- What the proof of the statement CartPlays stands on, part 5. (Packed by pack.py out of this session's texts.) -/
import Derived.Deep.MidRow
import Derived.Deep.RegionHeld2
import Derived.Deep.RegionHeld3
import Derived.Deep.RegionWith
import Derived.BigRegion
import Derived.Handy
import Derived.Laws.CopyRow
import Derived.Laws.CopyOwn
import Derived.Deep.RegionLaw
import Derived.StillTailTactics
import Derived.Test.YtmjjojbedllmgaaQCartPlays2
import Derived.Test.YtmjjojbedllmgaaQCartPlays3
import Derived.Test.YtmjjojbedllmgaaQCartPlays4
set_option linter.unusedVariables false
set_option linter.unusedSimpArgs false
set_option maxRecDepth 100000
set_option maxHeartbeats 20000000
open Go.RowKit Go.Proofs.YtmjjojbedllmgaaW.PrintWords Go.Proofs.YtmjjojbedllmgaaW.PrintLast Go.Proofs.YtmjjojbedllmgaaW.PrintMore Go.Proofs.Ytmjjojbedllmgaa.G
namespace Go.Proofs.Ytmjjojbedllmgaa.Hand
theorem of_all (A : Option Addr) (c : Nat) (l : List Int) (hl : l.length = 10) (X Y : Nat → C6) (e0 e1 e2 e3 e4 e5 e6 e7 e8 e9 : Int) (hX0 : X 0 = (0, 0, 0, 0, false, false)) (hY0 : Y 0 = (0, 0, 0, 0, false, false)) (h0 : av.f (X 0).1 (X 0).2.1 (X 0).2.2.1 (X 0).2.2.2.1 (X 0).2.2.2.2.1 (X 0).2.2.2.2.2 8 (rd l 0) = some ((X 1).1, (X 1).2.1, (X 1).2.2.1, (X 1).2.2.2.1, (X 1).2.2.2.2.1, (X 1).2.2.2.2.2, e0)) (h1 : av.f (X 1).1 (X 1).2.1 (X 1).2.2.1 (X 1).2.2.2.1 (X 1).2.2.2.2.1 (X 1).2.2.2.2.2 9 (rd l 1) = some ((X 2).1, (X 2).2.1, (X 2).2.2.1, (X 2).2.2.2.1, (X 2).2.2.2.2.1, (X 2).2.2.2.2.2, e1)) (h2 : av.f (X 2).1 (X 2).2.1 (X 2).2.2.1 (X 2).2.2.2.1 (X 2).2.2.2.2.1 (X 2).2.2.2.2.2 10 (rd l 2) = some ((X 3).1, (X 3).2.1, (X 3).2.2.1, (X 3).2.2.2.1, (X 3).2.2.2.2.1, (X 3).2.2.2.2.2, e2)) (h3 : av.f (X 3).1 (X 3).2.1 (X 3).2.2.1 (X 3).2.2.2.1 (X 3).2.2.2.2.1 (X 3).2.2.2.2.2 11 (rd l 3) = some ((X 4).1, (X 4).2.1, (X 4).2.2.1, (X 4).2.2.2.1, (X 4).2.2.2.2.1, (X 4).2.2.2.2.2, e3)) (h4 : av.f (X 4).1 (X 4).2.1 (X 4).2.2.1 (X 4).2.2.2.1 (X 4).2.2.2.2.1 (X 4).2.2.2.2.2 12 (rd l 4) = some ((X 5).1, (X 5).2.1, (X 5).2.2.1, (X 5).2.2.2.1, (X 5).2.2.2.2.1, (X 5).2.2.2.2.2, e4)) (h5 : av.f (Y 0).1 (Y 0).2.1 (Y 0).2.2.1 (Y 0).2.2.2.1 (Y 0).2.2.2.2.1 (Y 0).2.2.2.2.2 8 (rd l 5) = some ((Y 1).1, (Y 1).2.1, (Y 1).2.2.1, (Y 1).2.2.2.1, (Y 1).2.2.2.2.1, (Y 1).2.2.2.2.2, e5)) (h6 : av.f (Y 1).1 (Y 1).2.1 (Y 1).2.2.1 (Y 1).2.2.2.1 (Y 1).2.2.2.2.1 (Y 1).2.2.2.2.2 9 (rd l 6) = some ((Y 2).1, (Y 2).2.1, (Y 2).2.2.1, (Y 2).2.2.2.1, (Y 2).2.2.2.2.1, (Y 2).2.2.2.2.2, e6)) (h7 : av.f (Y 2).1 (Y 2).2.1 (Y 2).2.2.1 (Y 2).2.2.2.1 (Y 2).2.2.2.2.1 (Y 2).2.2.2.2.2 10 (rd l 7) = some ((Y 3).1, (Y 3).2.1, (Y 3).2.2.1, (Y 3).2.2.2.1, (Y 3).2.2.2.2.1, (Y 3).2.2.2.2.2, e7)) (h8 : av.f (Y 3).1 (Y 3).2.1 (Y 3).2.2.1 (Y 3).2.2.2.1 (Y 3).2.2.2.2.1 (Y 3).2.2.2.2.2 11 (rd l 8) = some ((Y 4).1, (Y 4).2.1, (Y 4).2.2.1, (Y 4).2.2.2.1, (Y 4).2.2.2.2.1, (Y 4).2.2.2.2.2, e8)) (h9 : av.f (Y 4).1 (Y 4).2.1 (Y 4).2.2.1 (Y 4).2.2.2.1 (Y 4).2.2.2.2.1 (Y 4).2.2.2.2.2 12 (rd l 9) = some ((Y 5).1, (Y 5).2.1, (Y 5).2.2.1, (Y 5).2.2.2.1, (Y 5).2.2.2.2.1, (Y 5).2.2.2.2.2, e9)) (r : List Int) (hB : bp.f (X 5).1 (X 5).2.1 (X 5).2.2.1 (X 5).2.2.2.1 (X 5).2.2.2.2.1 (X 5).2.2.2.2.2 (Y 5).1 (Y 5).2.1 (Y 5).2.2.1 (Y 5).2.2.2.1 (Y 5).2.2.2.2.1 (Y 5).2.2.2.2.2 = some r) (b : Bool) (v : Value) (hv : (b = true ∧ v = .tuple #[.agg #[.int .u8 (X 5).1, .int .u8 (X 5).2.1, .int .u8 (X 5).2.2.1, .int .u16 (X 5).2.2.2.1, .bool (X 5).2.2.2.2.1, .bool (X 5).2.2.2.2.2], .agg #[.int .u8 (Y 5).1, .int .u8 (Y 5).2.1, .int .u8 (Y 5).2.2.1, .int .u16 (Y 5).2.2.2.1, .bool (Y 5).2.2.2.2.1, .bool (Y 5).2.2.2.2.2], .int .i64 0]) ∨ (b = false ∧ v = .tuple #[.agg #[.int .u8 0, .int .u8 0, .int .u8 0, .int .u16 0, .bool false, .bool false], .agg #[.int .u8 0, .int .u8 0, .int .u8 0, .int .u16 0, .bool false, .bool false], .int .i64 6])) (w : World) (hr : Kd.C (Kd.int .u8) w A l.length l) (hc : l.length ≤ c) (hcmp : ((strOfNums r).toList == (strOfNums l).toList) = b) :
  Calls Try.prog 50 #[.slice A l.length c] w fun e' w' => e' = .returned v ∧ Below w.heap.size w w' := by
 have HV := ab.mk hv
 clear hv
 have HY := ab.mk hB
 clear hB
 rw [hl] at hr ⊢
 obtain ⟨ad, rfl, _⟩ := Kd.at_int hr 0 (by omega) (by omega)
 have H0 := ab.mk h0
 have H1 := ab.mk h1
 have H2 := ab.mk h2
 have H3 := ab.mk h3
 have H4 := ab.mk h4
 have H5 := ab.mk h5
 have H6 := ab.mk h6
 have H7 := ab.mk h7
 have H8 := ab.mk h8
 have H9 := ab.mk h9
 clear h0 h1 h2 h3 h4 h5 h6 h7 h8 h9
 have HR := ab.mk hr
 clear hr
 go_enter Try.func50, Try.ntmps50
 go_wp2_with fail
 have s1 : (w.alloc (.cells #[.int .u8 0, .int .u8 0, .int .u8 0, .int .u16 0, .bool false, .bool false] 34)).heap.size = w.heap.size + 1 := by simp
 have s2 : ((w.alloc (.cells #[.int .u8 0, .int .u8 0, .int .u8 0, .int .u16 0, .bool false, .bool false] 34)).alloc (.cells #[.int .u8 0, .int .u8 0, .int .u8 0, .int .u16 0, .bool false, .bool false] 34)).heap.size = w.heap.size + 1 + 1 := by simp
 have q1 := ah (ah (aC w (.cells #[.int .u8 0, .int .u8 0, .int .u8 0, .int .u16 0, .bool false, .bool false] 34)) (.cells #[.int .u8 0, .int .u8 0, .int .u8 0, .int .u16 0, .bool false, .bool false] 34)) (.cells #[.int .u8 0, .int .u8 0, .int .u8 0, .int .u16 0, .bool false, .bool false, .int .u8 0, .int .u8 0, .int .u8 0, .int .u16 0, .bool false, .bool false] 120)
 have q2 := heap_alloc_new (w.alloc (.cells #[.int .u8 0, .int .u8 0, .int .u8 0, .int .u16 0, .bool false, .bool false] 34)) (.cells #[.int .u8 0, .int .u8 0, .int .u8 0, .int .u16 0, .bool false, .bool false] 34)
 rw [s1] at q2
 have q2 := ah q2 (.cells #[.int .u8 0, .int .u8 0, .int .u8 0, .int .u16 0, .bool false, .bool false, .int .u8 0, .int .u8 0, .int .u8 0, .int .u16 0, .bool false, .bool false] 120)
 have q3 := heap_alloc_new ((w.alloc (.cells #[.int .u8 0, .int .u8 0, .int .u8 0, .int .u16 0, .bool false, .bool false] 34)).alloc (.cells #[.int .u8 0, .int .u8 0, .int .u8 0, .int .u16 0, .bool false, .bool false] 34)) (.cells #[.int .u8 0, .int .u8 0, .int .u8 0, .int .u16 0, .bool false, .bool false, .int .u8 0, .int .u8 0, .int .u8 0, .int .u16 0, .bool false, .bool false] 120)
 rw [s2] at q3
 have q4 := ac (ac (ac (Below.refl w.heap.size w) (.cells #[.int .u8 0, .int .u8 0, .int .u8 0, .int .u16 0, .bool false, .bool false] 34)) (.cells #[.int .u8 0, .int .u8 0, .int .u8 0, .int .u16 0, .bool false, .bool false] 34)) (.cells #[.int .u8 0, .int .u8 0, .int .u8 0, .int .u16 0, .bool false, .bool false, .int .u8 0, .int .u8 0, .int .u8 0, .int .u16 0, .bool false, .bool false] 120)
 have q5 : (.cells #[.int .u8 0, .int .u8 0, .int .u8 0, .int .u16 0, .bool false, .bool false, .int .u8 0, .int .u8 0, .int .u8 0, .int .u16 0, .bool false, .bool false] 120 : Obj) = .cells (stOf X Y 0) 120 := by show Obj.cells _ _ = Obj.cells (csOf (X 0) (Y 0)) _; unfold csOf; rw [hX0, hY0]
 rw [q5] at q3
 go_loopw [15] (fun i w' => ∃ (j : Nat), i = .int .i64 j ∧ ab (j ≤ 10 ∧ w'.heap[w.heap.size]? = some (.cells #[.int .u8 0, .int .u8 0, .int .u8 0, .int .u16 0, .bool false, .bool false] 34 (0, 0)) ∧ w'.heap[w.heap.size + 1]? = some (.cells #[.int .u8 0, .int .u8 0, .int .u8 0, .int .u16 0, .bool false, .bool false] 34 (0, 0)) ∧ w'.heap[(w.heap.size + 1 + 1)]? = some (.cells (stOf X Y j) 120 (0, 0)) ∧ Below w.heap.size w w')) (fun i _ => 20 - (intOf i).toNat)
 case atStart => exact ⟨0, rfl, ab.mk ⟨by omega, q1, q2, by rw [q5]; exact q3, q4⟩⟩
 case round =>
  obtain ⟨j, rfl, HA⟩ := hrel
  obtain ⟨hj, b1, b2, b3, hb⟩ := HA.out
  clear HA
  have B1 := ab.mk b1
  have B2 := ab.mk b2
  have B3 := ab.mk b3
  have HB := ab.mk hb
  have CB := ab.mk (Kd.C_below HR.out hb)
  clear hX0 hY0 b1 b2 b3 hb s1 s2 q1 q2 q3 q4 q5
  have hsz : (w.heap.size + 1 + 1) < wr.heap.size := aZ B3.out
  have hj6 : j = 0 ∨ j = 1 ∨ j = 2 ∨ j = 3 ∨ j = 4 ∨ j = 5 ∨ j = 6 ∨ j = 7 ∨ j = 8 ∨ j = 9 ∨ j = 10 := by omega
  clear hj
  rcases hj6 with rfl | rfl | rfl | rfl | rfl | rfl | rfl | rfl | rfl | rfl | rfl
  ·obtain ⟨ad', ea, cb⟩ := Kd.at_int CB.out 0 (by omega) (by omega)
   obtain rfl := Option.some.inj ea
   clear ea
   have cb : wr.cell? ad = some (.int .u8 (rd l 0)) := by simpa [Addr.add] using cb
   have c0 : wr.cell? ⟨(w.heap.size + 1 + 1), 0, none⟩ = some (.int .u8 (X 0).1) := (aa B3.out 0).trans rfl
   have c1 : wr.cell? ⟨(w.heap.size + 1 + 1), 1, none⟩ = some (.int .u8 (X 0).2.1) := (aa B3.out 1).trans rfl
   have c2 : wr.cell? ⟨(w.heap.size + 1 + 1), 2, none⟩ = some (.int .u8 (X 0).2.2.1) := (aa B3.out 2).trans rfl
   have c3 : wr.cell? ⟨(w.heap.size + 1 + 1), 3, none⟩ = some (.int .u16 (X 0).2.2.2.1) := (aa B3.out 3).trans rfl
   have c4 : wr.cell? ⟨(w.heap.size + 1 + 1), 4, none⟩ = some (.bool (X 0).2.2.2.2.1) := (aa B3.out 4).trans rfl
   have c5 : wr.cell? ⟨(w.heap.size + 1 + 1), 5, none⟩ = some (.bool (X 0).2.2.2.2.2) := (aa B3.out 5).trans rfl
   have c6 : wr.cell? ⟨(w.heap.size + 1 + 1), 6, none⟩ = some (.int .u8 (Y 0).1) := (aa B3.out 6).trans rfl
   have c7 : wr.cell? ⟨(w.heap.size + 1 + 1), 7, none⟩ = some (.int .u8 (Y 0).2.1) := (aa B3.out 7).trans rfl
   have c8 : wr.cell? ⟨(w.heap.size + 1 + 1), 8, none⟩ = some (.int .u8 (Y 0).2.2.1) := (aa B3.out 8).trans rfl
   have c9 : wr.cell? ⟨(w.heap.size + 1 + 1), 9, none⟩ = some (.int .u16 (Y 0).2.2.2.1) := (aa B3.out 9).trans rfl
   have c10 : wr.cell? ⟨(w.heap.size + 1 + 1), 10, none⟩ = some (.bool (Y 0).2.2.2.2.1) := (aa B3.out 10).trans rfl
   have c11 : wr.cell? ⟨(w.heap.size + 1 + 1), 11, none⟩ = some (.bool (Y 0).2.2.2.2.2) := (aa B3.out 11).trans rfl
   go_wp2_with (first | (go_at_call 43; ((with_reducible refine (av.calls (X 0).1 (X 0).2.1 (X 0).2.2.1 (X 0).2.2.2.1 (X 0).2.2.2.2.1 (X 0).2.2.2.2.2 8 (rd l 0) (X 1).1 (X 1).2.1 (X 1).2.2.1 (X 1).2.2.2.1 (X 1).2.2.2.2.1 (X 1).2.2.2.2.2 e0 _ H0.out).mono ?_)); rintro e' w2 ⟨rfl, hb⟩; have n1 := ab.mk (af B1.out hb); have n2 := ab.mk (af B2.out hb); have n3 := ab.mk (af B3.out hb); have n4 := ab.mk (ak HB.out hb); clear hb; have d0 : w2.cell? ⟨(w.heap.size + 1 + 1), 0, none⟩ = some (.int .u8 (X 0).1) := (aa n3.out 0).trans rfl; have d1 : w2.cell? ⟨(w.heap.size + 1 + 1), 1, none⟩ = some (.int .u8 (X 0).2.1) := (aa n3.out 1).trans rfl; have d2 : w2.cell? ⟨(w.heap.size + 1 + 1), 2, none⟩ = some (.int .u8 (X 0).2.2.1) := (aa n3.out 2).trans rfl; have d3 : w2.cell? ⟨(w.heap.size + 1 + 1), 3, none⟩ = some (.int .u16 (X 0).2.2.2.1) := (aa n3.out 3).trans rfl; have d4 : w2.cell? ⟨(w.heap.size + 1 + 1), 4, none⟩ = some (.bool (X 0).2.2.2.2.1) := (aa n3.out 4).trans rfl; have d5 : w2.cell? ⟨(w.heap.size + 1 + 1), 5, none⟩ = some (.bool (X 0).2.2.2.2.2) := (aa n3.out 5).trans rfl; have d6 : w2.cell? ⟨(w.heap.size + 1 + 1), 6, none⟩ = some (.int .u8 (Y 0).1) := (aa n3.out 6).trans rfl; have d7 : w2.cell? ⟨(w.heap.size + 1 + 1), 7, none⟩ = some (.int .u8 (Y 0).2.1) := (aa n3.out 7).trans rfl; have d8 : w2.cell? ⟨(w.heap.size + 1 + 1), 8, none⟩ = some (.int .u8 (Y 0).2.2.1) := (aa n3.out 8).trans rfl; have d9 : w2.cell? ⟨(w.heap.size + 1 + 1), 9, none⟩ = some (.int .u16 (Y 0).2.2.2.1) := (aa n3.out 9).trans rfl; have d10 : w2.cell? ⟨(w.heap.size + 1 + 1), 10, none⟩ = some (.bool (Y 0).2.2.2.2.1) := (aa n3.out 10).trans rfl; have d11 : w2.cell? ⟨(w.heap.size + 1 + 1), 11, none⟩ = some (.bool (Y 0).2.2.2.2.2) := (aa n3.out 11).trans rfl; have fz := fun i => ae n3.out i))
   refine ⟨⟨1, rfl, ab.mk ⟨by omega, ?_, ?_, ?_, ?_⟩⟩, by simp [intOf]⟩
   ·exact (al (al (al (al (al (al n1.out (by simp; omega) _) (by simp; omega) _) (by simp; omega) _) (by simp; omega) _) (by simp; omega) _) (by simp; omega) _)
   ·exact (al (al (al (al (al (al n2.out (by simp) _) (by simp) _) (by simp) _) (by simp) _) (by simp) _) (by simp) _)
   ·exact (an (an (an (an (an (an n3.out 0 _ rfl) 1 _ rfl) 2 _ rfl) 3 _ rfl) 4 _ rfl) 5 _ rfl)
   ·exact (ag (ag (ag (ag (ag (ag n4.out (by omega)) (by omega)) (by omega)) (by omega)) (by omega)) (by omega))
  ·obtain ⟨ad', ea, cb⟩ := Kd.at_int CB.out 1 (by omega) (by omega)
   obtain rfl := Option.some.inj ea
   clear ea
   have cb' : wr.cell? ⟨ad.block, ad.off + 1, none⟩ = some (.int .u8 (rd l 1)) := by simpa [Addr.add] using cb
   have c0 : wr.cell? ⟨(w.heap.size + 1 + 1), 0, none⟩ = some (.int .u8 (X 1).1) := (aa B3.out 0).trans rfl
   have c1 : wr.cell? ⟨(w.heap.size + 1 + 1), 1, none⟩ = some (.int .u8 (X 1).2.1) := (aa B3.out 1).trans rfl
   have c2 : wr.cell? ⟨(w.heap.size + 1 + 1), 2, none⟩ = some (.int .u8 (X 1).2.2.1) := (aa B3.out 2).trans rfl
   have c3 : wr.cell? ⟨(w.heap.size + 1 + 1), 3, none⟩ = some (.int .u16 (X 1).2.2.2.1) := (aa B3.out 3).trans rfl
   have c4 : wr.cell? ⟨(w.heap.size + 1 + 1), 4, none⟩ = some (.bool (X 1).2.2.2.2.1) := (aa B3.out 4).trans rfl
   have c5 : wr.cell? ⟨(w.heap.size + 1 + 1), 5, none⟩ = some (.bool (X 1).2.2.2.2.2) := (aa B3.out 5).trans rfl
   have c6 : wr.cell? ⟨(w.heap.size + 1 + 1), 6, none⟩ = some (.int .u8 (Y 0).1) := (aa B3.out 6).trans rfl
   have c7 : wr.cell? ⟨(w.heap.size + 1 + 1), 7, none⟩ = some (.int .u8 (Y 0).2.1) := (aa B3.out 7).trans rfl
   have c8 : wr.cell? ⟨(w.heap.size + 1 + 1), 8, none⟩ = some (.int .u8 (Y 0).2.2.1) := (aa B3.out 8).trans rfl
   have c9 : wr.cell? ⟨(w.heap.size + 1 + 1), 9, none⟩ = some (.int .u16 (Y 0).2.2.2.1) := (aa B3.out 9).trans rfl
   have c10 : wr.cell? ⟨(w.heap.size + 1 + 1), 10, none⟩ = some (.bool (Y 0).2.2.2.2.1) := (aa B3.out 10).trans rfl
   have c11 : wr.cell? ⟨(w.heap.size + 1 + 1), 11, none⟩ = some (.bool (Y 0).2.2.2.2.2) := (aa B3.out 11).trans rfl
   go_wp2_with (first | (go_at_call 43; ((with_reducible refine (av.calls (X 1).1 (X 1).2.1 (X 1).2.2.1 (X 1).2.2.2.1 (X 1).2.2.2.2.1 (X 1).2.2.2.2.2 9 (rd l 1) (X 2).1 (X 2).2.1 (X 2).2.2.1 (X 2).2.2.2.1 (X 2).2.2.2.2.1 (X 2).2.2.2.2.2 e1 _ H1.out).mono ?_)); rintro e' w2 ⟨rfl, hb⟩; have n1 := ab.mk (af B1.out hb); have n2 := ab.mk (af B2.out hb); have n3 := ab.mk (af B3.out hb); have n4 := ab.mk (ak HB.out hb); clear hb; have d0 : w2.cell? ⟨(w.heap.size + 1 + 1), 0, none⟩ = some (.int .u8 (X 1).1) := (aa n3.out 0).trans rfl; have d1 : w2.cell? ⟨(w.heap.size + 1 + 1), 1, none⟩ = some (.int .u8 (X 1).2.1) := (aa n3.out 1).trans rfl; have d2 : w2.cell? ⟨(w.heap.size + 1 + 1), 2, none⟩ = some (.int .u8 (X 1).2.2.1) := (aa n3.out 2).trans rfl; have d3 : w2.cell? ⟨(w.heap.size + 1 + 1), 3, none⟩ = some (.int .u16 (X 1).2.2.2.1) := (aa n3.out 3).trans rfl; have d4 : w2.cell? ⟨(w.heap.size + 1 + 1), 4, none⟩ = some (.bool (X 1).2.2.2.2.1) := (aa n3.out 4).trans rfl; have d5 : w2.cell? ⟨(w.heap.size + 1 + 1), 5, none⟩ = some (.bool (X 1).2.2.2.2.2) := (aa n3.out 5).trans rfl; have d6 : w2.cell? ⟨(w.heap.size + 1 + 1), 6, none⟩ = some (.int .u8 (Y 0).1) := (aa n3.out 6).trans rfl; have d7 : w2.cell? ⟨(w.heap.size + 1 + 1), 7, none⟩ = some (.int .u8 (Y 0).2.1) := (aa n3.out 7).trans rfl; have d8 : w2.cell? ⟨(w.heap.size + 1 + 1), 8, none⟩ = some (.int .u8 (Y 0).2.2.1) := (aa n3.out 8).trans rfl; have d9 : w2.cell? ⟨(w.heap.size + 1 + 1), 9, none⟩ = some (.int .u16 (Y 0).2.2.2.1) := (aa n3.out 9).trans rfl; have d10 : w2.cell? ⟨(w.heap.size + 1 + 1), 10, none⟩ = some (.bool (Y 0).2.2.2.2.1) := (aa n3.out 10).trans rfl; have d11 : w2.cell? ⟨(w.heap.size + 1 + 1), 11, none⟩ = some (.bool (Y 0).2.2.2.2.2) := (aa n3.out 11).trans rfl; have fz := fun i => ae n3.out i))
   refine ⟨⟨2, rfl, ab.mk ⟨by omega, ?_, ?_, ?_, ?_⟩⟩, by simp [intOf]⟩
   ·exact (al (al (al (al (al (al n1.out (by simp; omega) _) (by simp; omega) _) (by simp; omega) _) (by simp; omega) _) (by simp; omega) _) (by simp; omega) _)
   ·exact (al (al (al (al (al (al n2.out (by simp) _) (by simp) _) (by simp) _) (by simp) _) (by simp) _) (by simp) _)
   ·exact (an (an (an (an (an (an n3.out 0 _ rfl) 1 _ rfl) 2 _ rfl) 3 _ rfl) 4 _ rfl) 5 _ rfl)
   ·exact (ag (ag (ag (ag (ag (ag n4.out (by omega)) (by omega)) (by omega)) (by omega)) (by omega)) (by omega))
  ·obtain ⟨ad', ea, cb⟩ := Kd.at_int CB.out 2 (by omega) (by omega)
   obtain rfl := Option.some.inj ea
   clear ea
   have cb' : wr.cell? ⟨ad.block, ad.off + 2, none⟩ = some (.int .u8 (rd l 2)) := by simpa [Addr.add] using cb
   have c0 : wr.cell? ⟨(w.heap.size + 1 + 1), 0, none⟩ = some (.int .u8 (X 2).1) := (aa B3.out 0).trans rfl
   have c1 : wr.cell? ⟨(w.heap.size + 1 + 1), 1, none⟩ = some (.int .u8 (X 2).2.1) := (aa B3.out 1).trans rfl
   have c2 : wr.cell? ⟨(w.heap.size + 1 + 1), 2, none⟩ = some (.int .u8 (X 2).2.2.1) := (aa B3.out 2).trans rfl
   have c3 : wr.cell? ⟨(w.heap.size + 1 + 1), 3, none⟩ = some (.int .u16 (X 2).2.2.2.1) := (aa B3.out 3).trans rfl
   have c4 : wr.cell? ⟨(w.heap.size + 1 + 1), 4, none⟩ = some (.bool (X 2).2.2.2.2.1) := (aa B3.out 4).trans rfl
   have c5 : wr.cell? ⟨(w.heap.size + 1 + 1), 5, none⟩ = some (.bool (X 2).2.2.2.2.2) := (aa B3.out 5).trans rfl
   have c6 : wr.cell? ⟨(w.heap.size + 1 + 1), 6, none⟩ = some (.int .u8 (Y 0).1) := (aa B3.out 6).trans rfl
   have c7 : wr.cell? ⟨(w.heap.size + 1 + 1), 7, none⟩ = some (.int .u8 (Y 0).2.1) := (aa B3.out 7).trans rfl
   have c8 : wr.cell? ⟨(w.heap.size + 1 + 1), 8, none⟩ = some (.int .u8 (Y 0).2.2.1) := (aa B3.out 8).trans rfl
   have c9 : wr.cell? ⟨(w.heap.size + 1 + 1), 9, none⟩ = some (.int .u16 (Y 0).2.2.2.1) := (aa B3.out 9).trans rfl
   have c10 : wr.cell? ⟨(w.heap.size + 1 + 1), 10, none⟩ = some (.bool (Y 0).2.2.2.2.1) := (aa B3.out 10).trans rfl
   have c11 : wr.cell? ⟨(w.heap.size + 1 + 1), 11, none⟩ = some (.bool (Y 0).2.2.2.2.2) := (aa B3.out 11).trans rfl
   go_wp2_with (first | (go_at_call 43; ((with_reducible refine (av.calls (X 2).1 (X 2).2.1 (X 2).2.2.1 (X 2).2.2.2.1 (X 2).2.2.2.2.1 (X 2).2.2.2.2.2 10 (rd l 2) (X 3).1 (X 3).2.1 (X 3).2.2.1 (X 3).2.2.2.1 (X 3).2.2.2.2.1 (X 3).2.2.2.2.2 e2 _ H2.out).mono ?_)); rintro e' w2 ⟨rfl, hb⟩; have n1 := ab.mk (af B1.out hb); have n2 := ab.mk (af B2.out hb); have n3 := ab.mk (af B3.out hb); have n4 := ab.mk (ak HB.out hb); clear hb; have d0 : w2.cell? ⟨(w.heap.size + 1 + 1), 0, none⟩ = some (.int .u8 (X 2).1) := (aa n3.out 0).trans rfl; have d1 : w2.cell? ⟨(w.heap.size + 1 + 1), 1, none⟩ = some (.int .u8 (X 2).2.1) := (aa n3.out 1).trans rfl; have d2 : w2.cell? ⟨(w.heap.size + 1 + 1), 2, none⟩ = some (.int .u8 (X 2).2.2.1) := (aa n3.out 2).trans rfl; have d3 : w2.cell? ⟨(w.heap.size + 1 + 1), 3, none⟩ = some (.int .u16 (X 2).2.2.2.1) := (aa n3.out 3).trans rfl; have d4 : w2.cell? ⟨(w.heap.size + 1 + 1), 4, none⟩ = some (.bool (X 2).2.2.2.2.1) := (aa n3.out 4).trans rfl; have d5 : w2.cell? ⟨(w.heap.size + 1 + 1), 5, none⟩ = some (.bool (X 2).2.2.2.2.2) := (aa n3.out 5).trans rfl; have d6 : w2.cell? ⟨(w.heap.size + 1 + 1), 6, none⟩ = some (.int .u8 (Y 0).1) := (aa n3.out 6).trans rfl; have d7 : w2.cell? ⟨(w.heap.size + 1 + 1), 7, none⟩ = some (.int .u8 (Y 0).2.1) := (aa n3.out 7).trans rfl; have d8 : w2.cell? ⟨(w.heap.size + 1 + 1), 8, none⟩ = some (.int .u8 (Y 0).2.2.1) := (aa n3.out 8).trans rfl; have d9 : w2.cell? ⟨(w.heap.size + 1 + 1), 9, none⟩ = some (.int .u16 (Y 0).2.2.2.1) := (aa n3.out 9).trans rfl; have d10 : w2.cell? ⟨(w.heap.size + 1 + 1), 10, none⟩ = some (.bool (Y 0).2.2.2.2.1) := (aa n3.out 10).trans rfl; have d11 : w2.cell? ⟨(w.heap.size + 1 + 1), 11, none⟩ = some (.bool (Y 0).2.2.2.2.2) := (aa n3.out 11).trans rfl; have fz := fun i => ae n3.out i))
   refine ⟨⟨3, rfl, ab.mk ⟨by omega, ?_, ?_, ?_, ?_⟩⟩, by simp [intOf]⟩
   ·exact (al (al (al (al (al (al n1.out (by simp; omega) _) (by simp; omega) _) (by simp; omega) _) (by simp; omega) _) (by simp; omega) _) (by simp; omega) _)
   ·exact (al (al (al (al (al (al n2.out (by simp) _) (by simp) _) (by simp) _) (by simp) _) (by simp) _) (by simp) _)
   ·exact (an (an (an (an (an (an n3.out 0 _ rfl) 1 _ rfl) 2 _ rfl) 3 _ rfl) 4 _ rfl) 5 _ rfl)
   ·exact (ag (ag (ag (ag (ag (ag n4.out (by omega)) (by omega)) (by omega)) (by omega)) (by omega)) (by omega))
  ·obtain ⟨ad', ea, cb⟩ := Kd.at_int CB.out 3 (by omega) (by omega)
   obtain rfl := Option.some.inj ea
   clear ea
   have cb' : wr.cell? ⟨ad.block, ad.off + 3, none⟩ = some (.int .u8 (rd l 3)) := by simpa [Addr.add] using cb
   have c0 : wr.cell? ⟨(w.heap.size + 1 + 1), 0, none⟩ = some (.int .u8 (X 3).1) := (aa B3.out 0).trans rfl
   have c1 : wr.cell? ⟨(w.heap.size + 1 + 1), 1, none⟩ = some (.int .u8 (X 3).2.1) := (aa B3.out 1).trans rfl
   have c2 : wr.cell? ⟨(w.heap.size + 1 + 1), 2, none⟩ = some (.int .u8 (X 3).2.2.1) := (aa B3.out 2).trans rfl
   have c3 : wr.cell? ⟨(w.heap.size + 1 + 1), 3, none⟩ = some (.int .u16 (X 3).2.2.2.1) := (aa B3.out 3).trans rfl
   have c4 : wr.cell? ⟨(w.heap.size + 1 + 1), 4, none⟩ = some (.bool (X 3).2.2.2.2.1) := (aa B3.out 4).trans rfl
   have c5 : wr.cell? ⟨(w.heap.size + 1 + 1), 5, none⟩ = some (.bool (X 3).2.2.2.2.2) := (aa B3.out 5).trans rfl
   have c6 : wr.cell? ⟨(w.heap.size + 1 + 1), 6, none⟩ = some (.int .u8 (Y 0).1) := (aa B3.out 6).trans rfl
   have c7 : wr.cell? ⟨(w.heap.size + 1 + 1), 7, none⟩ = some (.int .u8 (Y 0).2.1) := (aa B3.out 7).trans rfl
   have c8 : wr.cell? ⟨(w.heap.size + 1 + 1), 8, none⟩ = some (.int .u8 (Y 0).2.2.1) := (aa B3.out 8).trans rfl
   have c9 : wr.cell? ⟨(w.heap.size + 1 + 1), 9, none⟩ = some (.int .u16 (Y 0).2.2.2.1) := (aa B3.out 9).trans rfl
   have c10 : wr.cell? ⟨(w.heap.size + 1 + 1), 10, none⟩ = some (.bool (Y 0).2.2.2.2.1) := (aa B3.out 10).trans rfl
   have c11 : wr.cell? ⟨(w.heap.size + 1 + 1), 11, none⟩ = some (.bool (Y 0).2.2.2.2.2) := (aa B3.out 11).trans rfl
   go_wp2_with (first | (go_at_call 43; ((with_reducible refine (av.calls (X 3).1 (X 3).2.1 (X 3).2.2.1 (X 3).2.2.2.1 (X 3).2.2.2.2.1 (X 3).2.2.2.2.2 11 (rd l 3) (X 4).1 (X 4).2.1 (X 4).2.2.1 (X 4).2.2.2.1 (X 4).2.2.2.2.1 (X 4).2.2.2.2.2 e3 _ H3.out).mono ?_)); rintro e' w2 ⟨rfl, hb⟩; have n1 := ab.mk (af B1.out hb); have n2 := ab.mk (af B2.out hb); have n3 := ab.mk (af B3.out hb); have n4 := ab.mk (ak HB.out hb); clear hb; have d0 : w2.cell? ⟨(w.heap.size + 1 + 1), 0, none⟩ = some (.int .u8 (X 3).1) := (aa n3.out 0).trans rfl; have d1 : w2.cell? ⟨(w.heap.size + 1 + 1), 1, none⟩ = some (.int .u8 (X 3).2.1) := (aa n3.out 1).trans rfl; have d2 : w2.cell? ⟨(w.heap.size + 1 + 1), 2, none⟩ = some (.int .u8 (X 3).2.2.1) := (aa n3.out 2).trans rfl; have d3 : w2.cell? ⟨(w.heap.size + 1 + 1), 3, none⟩ = some (.int .u16 (X 3).2.2.2.1) := (aa n3.out 3).trans rfl; have d4 : w2.cell? ⟨(w.heap.size + 1 + 1), 4, none⟩ = some (.bool (X 3).2.2.2.2.1) := (aa n3.out 4).trans rfl; have d5 : w2.cell? ⟨(w.heap.size + 1 + 1), 5, none⟩ = some (.bool (X 3).2.2.2.2.2) := (aa n3.out 5).trans rfl; have d6 : w2.cell? ⟨(w.heap.size + 1 + 1), 6, none⟩ = some (.int .u8 (Y 0).1) := (aa n3.out 6).trans rfl; have d7 : w2.cell? ⟨(w.heap.size + 1 + 1), 7, none⟩ = some (.int .u8 (Y 0).2.1) := (aa n3.out 7).trans rfl; have d8 : w2.cell? ⟨(w.heap.size + 1 + 1), 8, none⟩ = some (.int .u8 (Y 0).2.2.1) := (aa n3.out 8).trans rfl; have d9 : w2.cell? ⟨(w.heap.size + 1 + 1), 9, none⟩ = some (.int .u16 (Y 0).2.2.2.1) := (aa n3.out 9).trans rfl; have d10 : w2.cell? ⟨(w.heap.size + 1 + 1), 10, none⟩ = some (.bool (Y 0).2.2.2.2.1) := (aa n3.out 10).trans rfl; have d11 : w2.cell? ⟨(w.heap.size + 1 + 1), 11, none⟩ = some (.bool (Y 0).2.2.2.2.2) := (aa n3.out 11).trans rfl; have fz := fun i => ae n3.out i))
   refine ⟨⟨4, rfl, ab.mk ⟨by omega, ?_, ?_, ?_, ?_⟩⟩, by simp [intOf]⟩
   ·exact (al (al (al (al (al (al n1.out (by simp; omega) _) (by simp; omega) _) (by simp; omega) _) (by simp; omega) _) (by simp; omega) _) (by simp; omega) _)
   ·exact (al (al (al (al (al (al n2.out (by simp) _) (by simp) _) (by simp) _) (by simp) _) (by simp) _) (by simp) _)
   ·exact (an (an (an (an (an (an n3.out 0 _ rfl) 1 _ rfl) 2 _ rfl) 3 _ rfl) 4 _ rfl) 5 _ rfl)
   ·exact (ag (ag (ag (ag (ag (ag n4.out (by omega)) (by omega)) (by omega)) (by omega)) (by omega)) (by omega))
  ·obtain ⟨ad', ea, cb⟩ := Kd.at_int CB.out 4 (by omega) (by omega)
   obtain rfl := Option.some.inj ea
   clear ea
   have cb' : wr.cell? ⟨ad.block, ad.off + 4, none⟩ = some (.int .u8 (rd l 4)) := by simpa [Addr.add] using cb
   have c0 : wr.cell? ⟨(w.heap.size + 1 + 1), 0, none⟩ = some (.int .u8 (X 4).1) := (aa B3.out 0).trans rfl
   have c1 : wr.cell? ⟨(w.heap.size + 1 + 1), 1, none⟩ = some (.int .u8 (X 4).2.1) := (aa B3.out 1).trans rfl
   have c2 : wr.cell? ⟨(w.heap.size + 1 + 1), 2, none⟩ = some (.int .u8 (X 4).2.2.1) := (aa B3.out 2).trans rfl
   have c3 : wr.cell? ⟨(w.heap.size + 1 + 1), 3, none⟩ = some (.int .u16 (X 4).2.2.2.1) := (aa B3.out 3).trans rfl
   have c4 : wr.cell? ⟨(w.heap.size + 1 + 1), 4, none⟩ = some (.bool (X 4).2.2.2.2.1) := (aa B3.out 4).trans rfl
   have c5 : wr.cell? ⟨(w.heap.size + 1 + 1), 5, none⟩ = some (.bool (X 4).2.2.2.2.2) := (aa B3.out 5).trans rfl
   have c6 : wr.cell? ⟨(w.heap.size + 1 + 1), 6, none⟩ = some (.int .u8 (Y 0).1) := (aa B3.out 6).trans rfl
   have c7 : wr.cell? ⟨(w.heap.size + 1 + 1), 7, none⟩ = some (.int .u8 (Y 0).2.1) := (aa B3.out 7).trans rfl
   have c8 : wr.cell? ⟨(w.heap.size + 1 + 1), 8, none⟩ = some (.int .u8 (Y 0).2.2.1) := (aa B3.out 8).trans rfl
   have c9 : wr.cell? ⟨(w.heap.size + 1 + 1), 9, none⟩ = some (.int .u16 (Y 0).2.2.2.1) := (aa B3.out 9).trans rfl
   have c10 : wr.cell? ⟨(w.heap.size + 1 + 1), 10, none⟩ = some (.bool (Y 0).2.2.2.2.1) := (aa B3.out 10).trans rfl
   have c11 : wr.cell? ⟨(w.heap.size + 1 + 1), 11, none⟩ = some (.bool (Y 0).2.2.2.2.2) := (aa B3.out 11).trans rfl
   go_wp2_with (first | (go_at_call 43; ((with_reducible refine (av.calls (X 4).1 (X 4).2.1 (X 4).2.2.1 (X 4).2.2.2.1 (X 4).2.2.2.2.1 (X 4).2.2.2.2.2 12 (rd l 4) (X 5).1 (X 5).2.1 (X 5).2.2.1 (X 5).2.2.2.1 (X 5).2.2.2.2.1 (X 5).2.2.2.2.2 e4 _ H4.out).mono ?_)); rintro e' w2 ⟨rfl, hb⟩; have n1 := ab.mk (af B1.out hb); have n2 := ab.mk (af B2.out hb); have n3 := ab.mk (af B3.out hb); have n4 := ab.mk (ak HB.out hb); clear hb; have d0 : w2.cell? ⟨(w.heap.size + 1 + 1), 0, none⟩ = some (.int .u8 (X 4).1) := (aa n3.out 0).trans rfl; have d1 : w2.cell? ⟨(w.heap.size + 1 + 1), 1, none⟩ = some (.int .u8 (X 4).2.1) := (aa n3.out 1).trans rfl; have d2 : w2.cell? ⟨(w.heap.size + 1 + 1), 2, none⟩ = some (.int .u8 (X 4).2.2.1) := (aa n3.out 2).trans rfl; have d3 : w2.cell? ⟨(w.heap.size + 1 + 1), 3, none⟩ = some (.int .u16 (X 4).2.2.2.1) := (aa n3.out 3).trans rfl; have d4 : w2.cell? ⟨(w.heap.size + 1 + 1), 4, none⟩ = some (.bool (X 4).2.2.2.2.1) := (aa n3.out 4).trans rfl; have d5 : w2.cell? ⟨(w.heap.size + 1 + 1), 5, none⟩ = some (.bool (X 4).2.2.2.2.2) := (aa n3.out 5).trans rfl; have d6 : w2.cell? ⟨(w.heap.size + 1 + 1), 6, none⟩ = some (.int .u8 (Y 0).1) := (aa n3.out 6).trans rfl; have d7 : w2.cell? ⟨(w.heap.size + 1 + 1), 7, none⟩ = some (.int .u8 (Y 0).2.1) := (aa n3.out 7).trans rfl; have d8 : w2.cell? ⟨(w.heap.size + 1 + 1), 8, none⟩ = some (.int .u8 (Y 0).2.2.1) := (aa n3.out 8).trans rfl; have d9 : w2.cell? ⟨(w.heap.size + 1 + 1), 9, none⟩ = some (.int .u16 (Y 0).2.2.2.1) := (aa n3.out 9).trans rfl; have d10 : w2.cell? ⟨(w.heap.size + 1 + 1), 10, none⟩ = some (.bool (Y 0).2.2.2.2.1) := (aa n3.out 10).trans rfl; have d11 : w2.cell? ⟨(w.heap.size + 1 + 1), 11, none⟩ = some (.bool (Y 0).2.2.2.2.2) := (aa n3.out 11).trans rfl; have fz := fun i => ae n3.out i))
   refine ⟨⟨5, rfl, ab.mk ⟨by omega, ?_, ?_, ?_, ?_⟩⟩, by simp [intOf]⟩
   ·exact (al (al (al (al (al (al n1.out (by simp; omega) _) (by simp; omega) _) (by simp; omega) _) (by simp; omega) _) (by simp; omega) _) (by simp; omega) _)
   ·exact (al (al (al (al (al (al n2.out (by simp) _) (by simp) _) (by simp) _) (by simp) _) (by simp) _) (by simp) _)
   ·exact (an (an (an (an (an (an n3.out 0 _ rfl) 1 _ rfl) 2 _ rfl) 3 _ rfl) 4 _ rfl) 5 _ rfl)
   ·exact (ag (ag (ag (ag (ag (ag n4.out (by omega)) (by omega)) (by omega)) (by omega)) (by omega)) (by omega))
  ·obtain ⟨ad', ea, cb⟩ := Kd.at_int CB.out 5 (by omega) (by omega)
   obtain rfl := Option.some.inj ea
   clear ea
   have cb' : wr.cell? ⟨ad.block, ad.off + 5, none⟩ = some (.int .u8 (rd l 5)) := by simpa [Addr.add] using cb
   have c0 : wr.cell? ⟨(w.heap.size + 1 + 1), 0, none⟩ = some (.int .u8 (X 5).1) := (aa B3.out 0).trans rfl
   have c1 : wr.cell? ⟨(w.heap.size + 1 + 1), 1, none⟩ = some (.int .u8 (X 5).2.1) := (aa B3.out 1).trans rfl
   have c2 : wr.cell? ⟨(w.heap.size + 1 + 1), 2, none⟩ = some (.int .u8 (X 5).2.2.1) := (aa B3.out 2).trans rfl
   have c3 : wr.cell? ⟨(w.heap.size + 1 + 1), 3, none⟩ = some (.int .u16 (X 5).2.2.2.1) := (aa B3.out 3).trans rfl
   have c4 : wr.cell? ⟨(w.heap.size + 1 + 1), 4, none⟩ = some (.bool (X 5).2.2.2.2.1) := (aa B3.out 4).trans rfl
   have c5 : wr.cell? ⟨(w.heap.size + 1 + 1), 5, none⟩ = some (.bool (X 5).2.2.2.2.2) := (aa B3.out 5).trans rfl
   have c6 : wr.cell? ⟨(w.heap.size + 1 + 1), 6, none⟩ = some (.int .u8 (Y 0).1) := (aa B3.out 6).trans rfl
   have c7 : wr.cell? ⟨(w.heap.size + 1 + 1), 7, none⟩ = some (.int .u8 (Y 0).2.1) := (aa B3.out 7).trans rfl
   have c8 : wr.cell? ⟨(w.heap.size + 1 + 1), 8, none⟩ = some (.int .u8 (Y 0).2.2.1) := (aa B3.out 8).trans rfl
   have c9 : wr.cell? ⟨(w.heap.size + 1 + 1), 9, none⟩ = some (.int .u16 (Y 0).2.2.2.1) := (aa B3.out 9).trans rfl
   have c10 : wr.cell? ⟨(w.heap.size + 1 + 1), 10, none⟩ = some (.bool (Y 0).2.2.2.2.1) := (aa B3.out 10).trans rfl
   have c11 : wr.cell? ⟨(w.heap.size + 1 + 1), 11, none⟩ = some (.bool (Y 0).2.2.2.2.2) := (aa B3.out 11).trans rfl
   go_wp2_with (first | (go_at_call 43; ((with_reducible refine (av.calls (Y 0).1 (Y 0).2.1 (Y 0).2.2.1 (Y 0).2.2.2.1 (Y 0).2.2.2.2.1 (Y 0).2.2.2.2.2 8 (rd l 5) (Y 1).1 (Y 1).2.1 (Y 1).2.2.1 (Y 1).2.2.2.1 (Y 1).2.2.2.2.1 (Y 1).2.2.2.2.2 e5 _ H5.out).mono ?_)); rintro e' w2 ⟨rfl, hb⟩; have n1 := ab.mk (af B1.out hb); have n2 := ab.mk (af B2.out hb); have n3 := ab.mk (af B3.out hb); have n4 := ab.mk (ak HB.out hb); clear hb; have d0 : w2.cell? ⟨(w.heap.size + 1 + 1), 0, none⟩ = some (.int .u8 (X 5).1) := (aa n3.out 0).trans rfl; have d1 : w2.cell? ⟨(w.heap.size + 1 + 1), 1, none⟩ = some (.int .u8 (X 5).2.1) := (aa n3.out 1).trans rfl; have d2 : w2.cell? ⟨(w.heap.size + 1 + 1), 2, none⟩ = some (.int .u8 (X 5).2.2.1) := (aa n3.out 2).trans rfl; have d3 : w2.cell? ⟨(w.heap.size + 1 + 1), 3, none⟩ = some (.int .u16 (X 5).2.2.2.1) := (aa n3.out 3).trans rfl; have d4 : w2.cell? ⟨(w.heap.size + 1 + 1), 4, none⟩ = some (.bool (X 5).2.2.2.2.1) := (aa n3.out 4).trans rfl; have d5 : w2.cell? ⟨(w.heap.size + 1 + 1), 5, none⟩ = some (.bool (X 5).2.2.2.2.2) := (aa n3.out 5).trans rfl; have d6 : w2.cell? ⟨(w.heap.size + 1 + 1), 6, none⟩ = some (.int .u8 (Y 0).1) := (aa n3.out 6).trans rfl; have d7 : w2.cell? ⟨(w.heap.size + 1 + 1), 7, none⟩ = some (.int .u8 (Y 0).2.1) := (aa n3.out 7).trans rfl; have d8 : w2.cell? ⟨(w.heap.size + 1 + 1), 8, none⟩ = some (.int .u8 (Y 0).2.2.1) := (aa n3.out 8).trans rfl; have d9 : w2.cell? ⟨(w.heap.size + 1 + 1), 9, none⟩ = some (.int .u16 (Y 0).2.2.2.1) := (aa n3.out 9).trans rfl; have d10 : w2.cell? ⟨(w.heap.size + 1 + 1), 10, none⟩ = some (.bool (Y 0).2.2.2.2.1) := (aa n3.out 10).trans rfl; have d11 : w2.cell? ⟨(w.heap.size + 1 + 1), 11, none⟩ = some (.bool (Y 0).2.2.2.2.2) := (aa n3.out 11).trans rfl; have fz := fun i => ae n3.out i))
   refine ⟨⟨6, rfl, ab.mk ⟨by omega, ?_, ?_, ?_, ?_⟩⟩, by simp [intOf]⟩
   ·exact (al (al (al (al (al (al n1.out (by simp; omega) _) (by simp; omega) _) (by simp; omega) _) (by simp; omega) _) (by simp; omega) _) (by simp; omega) _)
   ·exact (al (al (al (al (al (al n2.out (by simp) _) (by simp) _) (by simp) _) (by simp) _) (by simp) _) (by simp) _)
   ·exact (an (an (an (an (an (an n3.out 6 _ rfl) 7 _ rfl) 8 _ rfl) 9 _ rfl) 10 _ rfl) 11 _ rfl)
   ·exact (ag (ag (ag (ag (ag (ag n4.out (by omega)) (by omega)) (by omega)) (by omega)) (by omega)) (by omega))
  ·obtain ⟨ad', ea, cb⟩ := Kd.at_int CB.out 6 (by omega) (by omega)
   obtain rfl := Option.some.inj ea
   clear ea
   have cb' : wr.cell? ⟨ad.block, ad.off + 6, none⟩ = some (.int .u8 (rd l 6)) := by simpa [Addr.add] using cb
   have c0 : wr.cell? ⟨(w.heap.size + 1 + 1), 0, none⟩ = some (.int .u8 (X 5).1) := (aa B3.out 0).trans rfl
   have c1 : wr.cell? ⟨(w.heap.size + 1 + 1), 1, none⟩ = some (.int .u8 (X 5).2.1) := (aa B3.out 1).trans rfl
   have c2 : wr.cell? ⟨(w.heap.size + 1 + 1), 2, none⟩ = some (.int .u8 (X 5).2.2.1) := (aa B3.out 2).trans rfl
   have c3 : wr.cell? ⟨(w.heap.size + 1 + 1), 3, none⟩ = some (.int .u16 (X 5).2.2.2.1) := (aa B3.out 3).trans rfl
   have c4 : wr.cell? ⟨(w.heap.size + 1 + 1), 4, none⟩ = some (.bool (X 5).2.2.2.2.1) := (aa B3.out 4).trans rfl
   have c5 : wr.cell? ⟨(w.heap.size + 1 + 1), 5, none⟩ = some (.bool (X 5).2.2.2.2.2) := (aa B3.out 5).trans rfl
   have c6 : wr.cell? ⟨(w.heap.size + 1 + 1), 6, none⟩ = some (.int .u8 (Y 1).1) := (aa B3.out 6).trans rfl
   have c7 : wr.cell? ⟨(w.heap.size + 1 + 1), 7, none⟩ = some (.int .u8 (Y 1).2.1) := (aa B3.out 7).trans rfl
   have c8 : wr.cell? ⟨(w.heap.size + 1 + 1), 8, none⟩ = some (.int .u8 (Y 1).2.2.1) := (aa B3.out 8).trans rfl
   have c9 : wr.cell? ⟨(w.heap.size + 1 + 1), 9, none⟩ = some (.int .u16 (Y 1).2.2.2.1) := (aa B3.out 9).trans rfl
   have c10 : wr.cell? ⟨(w.heap.size + 1 + 1), 10, none⟩ = some (.bool (Y 1).2.2.2.2.1) := (aa B3.out 10).trans rfl
   have c11 : wr.cell? ⟨(w.heap.size + 1 + 1), 11, none⟩ = some (.bool (Y 1).2.2.2.2.2) := (aa B3.out 11).trans rfl
   go_wp2_with (first | (go_at_call 43; ((with_reducible refine (av.calls (Y 1).1 (Y 1).2.1 (Y 1).2.2.1 (Y 1).2.2.2.1 (Y 1).2.2.2.2.1 (Y 1).2.2.2.2.2 9 (rd l 6) (Y 2).1 (Y 2).2.1 (Y 2).2.2.1 (Y 2).2.2.2.1 (Y 2).2.2.2.2.1 (Y 2).2.2.2.2.2 e6 _ H6.out).mono ?_)); rintro e' w2 ⟨rfl, hb⟩; have n1 := ab.mk (af B1.out hb); have n2 := ab.mk (af B2.out hb); have n3 := ab.mk (af B3.out hb); have n4 := ab.mk (ak HB.out hb); clear hb; have d0 : w2.cell? ⟨(w.heap.size + 1 + 1), 0, none⟩ = some (.int .u8 (X 5).1) := (aa n3.out 0).trans rfl; have d1 : w2.cell? ⟨(w.heap.size + 1 + 1), 1, none⟩ = some (.int .u8 (X 5).2.1) := (aa n3.out 1).trans rfl; have d2 : w2.cell? ⟨(w.heap.size + 1 + 1), 2, none⟩ = some (.int .u8 (X 5).2.2.1) := (aa n3.out 2).trans rfl; have d3 : w2.cell? ⟨(w.heap.size + 1 + 1), 3, none⟩ = some (.int .u16 (X 5).2.2.2.1) := (aa n3.out 3).trans rfl; have d4 : w2.cell? ⟨(w.heap.size + 1 + 1), 4, none⟩ = some (.bool (X 5).2.2.2.2.1) := (aa n3.out 4).trans rfl; have d5 : w2.cell? ⟨(w.heap.size + 1 + 1), 5, none⟩ = some (.bool (X 5).2.2.2.2.2) := (aa n3.out 5).trans rfl; have d6 : w2.cell? ⟨(w.heap.size + 1 + 1), 6, none⟩ = some (.int .u8 (Y 1).1) := (aa n3.out 6).trans rfl; have d7 : w2.cell? ⟨(w.heap.size + 1 + 1), 7, none⟩ = some (.int .u8 (Y 1).2.1) := (aa n3.out 7).trans rfl; have d8 : w2.cell? ⟨(w.heap.size + 1 + 1), 8, none⟩ = some (.int .u8 (Y 1).2.2.1) := (aa n3.out 8).trans rfl; have d9 : w2.cell? ⟨(w.heap.size + 1 + 1), 9, none⟩ = some (.int .u16 (Y 1).2.2.2.1) := (aa n3.out 9).trans rfl; have d10 : w2.cell? ⟨(w.heap.size + 1 + 1), 10, none⟩ = some (.bool (Y 1).2.2.2.2.1) := (aa n3.out 10).trans rfl; have d11 : w2.cell? ⟨(w.heap.size + 1 + 1), 11, none⟩ = some (.bool (Y 1).2.2.2.2.2) := (aa n3.out 11).trans rfl; have fz := fun i => ae n3.out i))
   refine ⟨⟨7, rfl, ab.mk ⟨by omega, ?_, ?_, ?_, ?_⟩⟩, by simp [intOf]⟩
   ·exact (al (al (al (al (al (al n1.out (by simp; omega) _) (by simp; omega) _) (by simp; omega) _) (by simp; omega) _) (by simp; omega) _) (by simp; omega) _)
   ·exact (al (al (al (al (al (al n2.out (by simp) _) (by simp) _) (by simp) _) (by simp) _) (by simp) _) (by simp) _)
   ·exact (an (an (an (an (an (an n3.out 6 _ rfl) 7 _ rfl) 8 _ rfl) 9 _ rfl) 10 _ rfl) 11 _ rfl)
   ·exact (ag (ag (ag (ag (ag (ag n4.out (by omega)) (by omega)) (by omega)) (by omega)) (by omega)) (by omega))
  ·obtain ⟨ad', ea, cb⟩ := Kd.at_int CB.out 7 (by omega) (by omega)
   obtain rfl := Option.some.inj ea
   clear ea
   have cb' : wr.cell? ⟨ad.block, ad.off + 7, none⟩ = some (.int .u8 (rd l 7)) := by simpa [Addr.add] using cb
   have c0 : wr.cell? ⟨(w.heap.size + 1 + 1), 0, none⟩ = some (.int .u8 (X 5).1) := (aa B3.out 0).trans rfl
   have c1 : wr.cell? ⟨(w.heap.size + 1 + 1), 1, none⟩ = some (.int .u8 (X 5).2.1) := (aa B3.out 1).trans rfl
   have c2 : wr.cell? ⟨(w.heap.size + 1 + 1), 2, none⟩ = some (.int .u8 (X 5).2.2.1) := (aa B3.out 2).trans rfl
   have c3 : wr.cell? ⟨(w.heap.size + 1 + 1), 3, none⟩ = some (.int .u16 (X 5).2.2.2.1) := (aa B3.out 3).trans rfl
   have c4 : wr.cell? ⟨(w.heap.size + 1 + 1), 4, none⟩ = some (.bool (X 5).2.2.2.2.1) := (aa B3.out 4).trans rfl
   have c5 : wr.cell? ⟨(w.heap.size + 1 + 1), 5, none⟩ = some (.bool (X 5).2.2.2.2.2) := (aa B3.out 5).trans rfl
   have c6 : wr.cell? ⟨(w.heap.size + 1 + 1), 6, none⟩ = some (.int .u8 (Y 2).1) := (aa B3.out 6).trans rfl
   have c7 : wr.cell? ⟨(w.heap.size + 1 + 1), 7, none⟩ = some (.int .u8 (Y 2).2.1) := (aa B3.out 7).trans rfl
   have c8 : wr.cell? ⟨(w.heap.size + 1 + 1), 8, none⟩ = some (.int .u8 (Y 2).2.2.1) := (aa B3.out 8).trans rfl
   have c9 : wr.cell? ⟨(w.heap.size + 1 + 1), 9, none⟩ = some (.int .u16 (Y 2).2.2.2.1) := (aa B3.out 9).trans rfl
   have c10 : wr.cell? ⟨(w.heap.size + 1 + 1), 10, none⟩ = some (.bool (Y 2).2.2.2.2.1) := (aa B3.out 10).trans rfl
   have c11 : wr.cell? ⟨(w.heap.size + 1 + 1), 11, none⟩ = some (.bool (Y 2).2.2.2.2.2) := (aa B3.out 11).trans rfl
   go_wp2_with (first | (go_at_call 43; ((with_reducible refine (av.calls (Y 2).1 (Y 2).2.1 (Y 2).2.2.1 (Y 2).2.2.2.1 (Y 2).2.2.2.2.1 (Y 2).2.2.2.2.2 10 (rd l 7) (Y 3).1 (Y 3).2.1 (Y 3).2.2.1 (Y 3).2.2.2.1 (Y 3).2.2.2.2.1 (Y 3).2.2.2.2.2 e7 _ H7.out).mono ?_)); rintro e' w2 ⟨rfl, hb⟩; have n1 := ab.mk (af B1.out hb); have n2 := ab.mk (af B2.out hb); have n3 := ab.mk (af B3.out hb); have n4 := ab.mk (ak HB.out hb); clear hb; have d0 : w2.cell? ⟨(w.heap.size + 1 + 1), 0, none⟩ = some (.int .u8 (X 5).1) := (aa n3.out 0).trans rfl; have d1 : w2.cell? ⟨(w.heap.size + 1 + 1), 1, none⟩ = some (.int .u8 (X 5).2.1) := (aa n3.out 1).trans rfl; have d2 : w2.cell? ⟨(w.heap.size + 1 + 1), 2, none⟩ = some (.int .u8 (X 5).2.2.1) := (aa n3.out 2).trans rfl; have d3 : w2.cell? ⟨(w.heap.size + 1 + 1), 3, none⟩ = some (.int .u16 (X 5).2.2.2.1) := (aa n3.out 3).trans rfl; have d4 : w2.cell? ⟨(w.heap.size + 1 + 1), 4, none⟩ = some (.bool (X 5).2.2.2.2.1) := (aa n3.out 4).trans rfl; have d5 : w2.cell? ⟨(w.heap.size + 1 + 1), 5, none⟩ = some (.bool (X 5).2.2.2.2.2) := (aa n3.out 5).trans rfl; have d6 : w2.cell? ⟨(w.heap.size + 1 + 1), 6, none⟩ = some (.int .u8 (Y 2).1) := (aa n3.out 6).trans rfl; have d7 : w2.cell? ⟨(w.heap.size + 1 + 1), 7, none⟩ = some (.int .u8 (Y 2).2.1) := (aa n3.out 7).trans rfl; have d8 : w2.cell? ⟨(w.heap.size + 1 + 1), 8, none⟩ = some (.int .u8 (Y 2).2.2.1) := (aa n3.out 8).trans rfl; have d9 : w2.cell? ⟨(w.heap.size + 1 + 1), 9, none⟩ = some (.int .u16 (Y 2).2.2.2.1) := (aa n3.out 9).trans rfl; have d10 : w2.cell? ⟨(w.heap.size + 1 + 1), 10, none⟩ = some (.bool (Y 2).2.2.2.2.1) := (aa n3.out 10).trans rfl; have d11 : w2.cell? ⟨(w.heap.size + 1 + 1), 11, none⟩ = some (.bool (Y 2).2.2.2.2.2) := (aa n3.out 11).trans rfl; have fz := fun i => ae n3.out i))
   refine ⟨⟨8, rfl, ab.mk ⟨by omega, ?_, ?_, ?_, ?_⟩⟩, by simp [intOf]⟩
   ·exact (al (al (al (al (al (al n1.out (by simp; omega) _) (by simp; omega) _) (by simp; omega) _) (by simp; omega) _) (by simp; omega) _) (by simp; omega) _)
   ·exact (al (al (al (al (al (al n2.out (by simp) _) (by simp) _) (by simp) _) (by simp) _) (by simp) _) (by simp) _)
   ·exact (an (an (an (an (an (an n3.out 6 _ rfl) 7 _ rfl) 8 _ rfl) 9 _ rfl) 10 _ rfl) 11 _ rfl)
   ·exact (ag (ag (ag (ag (ag (ag n4.out (by omega)) (by omega)) (by omega)) (by omega)) (by omega)) (by omega))
  ·obtain ⟨ad', ea, cb⟩ := Kd.at_int CB.out 8 (by omega) (by omega)
   obtain rfl := Option.some.inj ea
   clear ea
   have cb' : wr.cell? ⟨ad.block, ad.off + 8, none⟩ = some (.int .u8 (rd l 8)) := by simpa [Addr.add] using cb
   have c0 : wr.cell? ⟨(w.heap.size + 1 + 1), 0, none⟩ = some (.int .u8 (X 5).1) := (aa B3.out 0).trans rfl
   have c1 : wr.cell? ⟨(w.heap.size + 1 + 1), 1, none⟩ = some (.int .u8 (X 5).2.1) := (aa B3.out 1).trans rfl
   have c2 : wr.cell? ⟨(w.heap.size + 1 + 1), 2, none⟩ = some (.int .u8 (X 5).2.2.1) := (aa B3.out 2).trans rfl
   have c3 : wr.cell? ⟨(w.heap.size + 1 + 1), 3, none⟩ = some (.int .u16 (X 5).2.2.2.1) := (aa B3.out 3).trans rfl
   have c4 : wr.cell? ⟨(w.heap.size + 1 + 1), 4, none⟩ = some (.bool (X 5).2.2.2.2.1) := (aa B3.out 4).trans rfl
   have c5 : wr.cell? ⟨(w.heap.size + 1 + 1), 5, none⟩ = some (.bool (X 5).2.2.2.2.2) := (aa B3.out 5).trans rfl
   have c6 : wr.cell? ⟨(w.heap.size + 1 + 1), 6, none⟩ = some (.int .u8 (Y 3).1) := (aa B3.out 6).trans rfl
   have c7 : wr.cell? ⟨(w.heap.size + 1 + 1), 7, none⟩ = some (.int .u8 (Y 3).2.1) := (aa B3.out 7).trans rfl
   have c8 : wr.cell? ⟨(w.heap.size + 1 + 1), 8, none⟩ = some (.int .u8 (Y 3).2.2.1) := (aa B3.out 8).trans rfl
   have c9 : wr.cell? ⟨(w.heap.size + 1 + 1), 9, none⟩ = some (.int .u16 (Y 3).2.2.2.1) := (aa B3.out 9).trans rfl
   have c10 : wr.cell? ⟨(w.heap.size + 1 + 1), 10, none⟩ = some (.bool (Y 3).2.2.2.2.1) := (aa B3.out 10).trans rfl
   have c11 : wr.cell? ⟨(w.heap.size + 1 + 1), 11, none⟩ = some (.bool (Y 3).2.2.2.2.2) := (aa B3.out 11).trans rfl
   go_wp2_with (first | (go_at_call 43; ((with_reducible refine (av.calls (Y 3).1 (Y 3).2.1 (Y 3).2.2.1 (Y 3).2.2.2.1 (Y 3).2.2.2.2.1 (Y 3).2.2.2.2.2 11 (rd l 8) (Y 4).1 (Y 4).2.1 (Y 4).2.2.1 (Y 4).2.2.2.1 (Y 4).2.2.2.2.1 (Y 4).2.2.2.2.2 e8 _ H8.out).mono ?_)); rintro e' w2 ⟨rfl, hb⟩; have n1 := ab.mk (af B1.out hb); have n2 := ab.mk (af B2.out hb); have n3 := ab.mk (af B3.out hb); have n4 := ab.mk (ak HB.out hb); clear hb; have d0 : w2.cell? ⟨(w.heap.size + 1 + 1), 0, none⟩ = some (.int .u8 (X 5).1) := (aa n3.out 0).trans rfl; have d1 : w2.cell? ⟨(w.heap.size + 1 + 1), 1, none⟩ = some (.int .u8 (X 5).2.1) := (aa n3.out 1).trans rfl; have d2 : w2.cell? ⟨(w.heap.size + 1 + 1), 2, none⟩ = some (.int .u8 (X 5).2.2.1) := (aa n3.out 2).trans rfl; have d3 : w2.cell? ⟨(w.heap.size + 1 + 1), 3, none⟩ = some (.int .u16 (X 5).2.2.2.1) := (aa n3.out 3).trans rfl; have d4 : w2.cell? ⟨(w.heap.size + 1 + 1), 4, none⟩ = some (.bool (X 5).2.2.2.2.1) := (aa n3.out 4).trans rfl; have d5 : w2.cell? ⟨(w.heap.size + 1 + 1), 5, none⟩ = some (.bool (X 5).2.2.2.2.2) := (aa n3.out 5).trans rfl; have d6 : w2.cell? ⟨(w.heap.size + 1 + 1), 6, none⟩ = some (.int .u8 (Y 3).1) := (aa n3.out 6).trans rfl; have d7 : w2.cell? ⟨(w.heap.size + 1 + 1), 7, none⟩ = some (.int .u8 (Y 3).2.1) := (aa n3.out 7).trans rfl; have d8 : w2.cell? ⟨(w.heap.size + 1 + 1), 8, none⟩ = some (.int .u8 (Y 3).2.2.1) := (aa n3.out 8).trans rfl; have d9 : w2.cell? ⟨(w.heap.size + 1 + 1), 9, none⟩ = some (.int .u16 (Y 3).2.2.2.1) := (aa n3.out 9).trans rfl; have d10 : w2.cell? ⟨(w.heap.size + 1 + 1), 10, none⟩ = some (.bool (Y 3).2.2.2.2.1) := (aa n3.out 10).trans rfl; have d11 : w2.cell? ⟨(w.heap.size + 1 + 1), 11, none⟩ = some (.bool (Y 3).2.2.2.2.2) := (aa n3.out 11).trans rfl; have fz := fun i => ae n3.out i))
   refine ⟨⟨9, rfl, ab.mk ⟨by omega, ?_, ?_, ?_, ?_⟩⟩, by simp [intOf]⟩
   ·exact (al (al (al (al (al (al n1.out (by simp; omega) _) (by simp; omega) _) (by simp; omega) _) (by simp; omega) _) (by simp; omega) _) (by simp; omega) _)
   ·exact (al (al (al (al (al (al n2.out (by simp) _) (by simp) _) (by simp) _) (by simp) _) (by simp) _) (by simp) _)
   ·exact (an (an (an (an (an (an n3.out 6 _ rfl) 7 _ rfl) 8 _ rfl) 9 _ rfl) 10 _ rfl) 11 _ rfl)
   ·exact (ag (ag (ag (ag (ag (ag n4.out (by omega)) (by omega)) (by omega)) (by omega)) (by omega)) (by omega))
  ·obtain ⟨ad', ea, cb⟩ := Kd.at_int CB.out 9 (by omega) (by omega)
   obtain rfl := Option.some.inj ea
   clear ea
   have cb' : wr.cell? ⟨ad.block, ad.off + 9, none⟩ = some (.int .u8 (rd l 9)) := by simpa [Addr.add] using cb
   have c0 : wr.cell? ⟨(w.heap.size + 1 + 1), 0, none⟩ = some (.int .u8 (X 5).1) := (aa B3.out 0).trans rfl
   have c1 : wr.cell? ⟨(w.heap.size + 1 + 1), 1, none⟩ = some (.int .u8 (X 5).2.1) := (aa B3.out 1).trans rfl
   have c2 : wr.cell? ⟨(w.heap.size + 1 + 1), 2, none⟩ = some (.int .u8 (X 5).2.2.1) := (aa B3.out 2).trans rfl
   have c3 : wr.cell? ⟨(w.heap.size + 1 + 1), 3, none⟩ = some (.int .u16 (X 5).2.2.2.1) := (aa B3.out 3).trans rfl
   have c4 : wr.cell? ⟨(w.heap.size + 1 + 1), 4, none⟩ = some (.bool (X 5).2.2.2.2.1) := (aa B3.out 4).trans rfl
   have c5 : wr.cell? ⟨(w.heap.size + 1 + 1), 5, none⟩ = some (.bool (X 5).2.2.2.2.2) := (aa B3.out 5).trans rfl
   have c6 : wr.cell? ⟨(w.heap.size + 1 + 1), 6, none⟩ = some (.int .u8 (Y 4).1) := (aa B3.out 6).trans rfl
   have c7 : wr.cell? ⟨(w.heap.size + 1 + 1), 7, none⟩ = some (.int .u8 (Y 4).2.1) := (aa B3.out 7).trans rfl
   have c8 : wr.cell? ⟨(w.heap.size + 1 + 1), 8, none⟩ = some (.int .u8 (Y 4).2.2.1) := (aa B3.out 8).trans rfl
   have c9 : wr.cell? ⟨(w.heap.size + 1 + 1), 9, none⟩ = some (.int .u16 (Y 4).2.2.2.1) := (aa B3.out 9).trans rfl
   have c10 : wr.cell? ⟨(w.heap.size + 1 + 1), 10, none⟩ = some (.bool (Y 4).2.2.2.2.1) := (aa B3.out 10).trans rfl
   have c11 : wr.cell? ⟨(w.heap.size + 1 + 1), 11, none⟩ = some (.bool (Y 4).2.2.2.2.2) := (aa B3.out 11).trans rfl
   go_wp2_with (first | (go_at_call 43; ((with_reducible refine (av.calls (Y 4).1 (Y 4).2.1 (Y 4).2.2.1 (Y 4).2.2.2.1 (Y 4).2.2.2.2.1 (Y 4).2.2.2.2.2 12 (rd l 9) (Y 5).1 (Y 5).2.1 (Y 5).2.2.1 (Y 5).2.2.2.1 (Y 5).2.2.2.2.1 (Y 5).2.2.2.2.2 e9 _ H9.out).mono ?_)); rintro e' w2 ⟨rfl, hb⟩; have n1 := ab.mk (af B1.out hb); have n2 := ab.mk (af B2.out hb); have n3 := ab.mk (af B3.out hb); have n4 := ab.mk (ak HB.out hb); clear hb; have d0 : w2.cell? ⟨(w.heap.size + 1 + 1), 0, none⟩ = some (.int .u8 (X 5).1) := (aa n3.out 0).trans rfl; have d1 : w2.cell? ⟨(w.heap.size + 1 + 1), 1, none⟩ = some (.int .u8 (X 5).2.1) := (aa n3.out 1).trans rfl; have d2 : w2.cell? ⟨(w.heap.size + 1 + 1), 2, none⟩ = some (.int .u8 (X 5).2.2.1) := (aa n3.out 2).trans rfl; have d3 : w2.cell? ⟨(w.heap.size + 1 + 1), 3, none⟩ = some (.int .u16 (X 5).2.2.2.1) := (aa n3.out 3).trans rfl; have d4 : w2.cell? ⟨(w.heap.size + 1 + 1), 4, none⟩ = some (.bool (X 5).2.2.2.2.1) := (aa n3.out 4).trans rfl; have d5 : w2.cell? ⟨(w.heap.size + 1 + 1), 5, none⟩ = some (.bool (X 5).2.2.2.2.2) := (aa n3.out 5).trans rfl; have d6 : w2.cell? ⟨(w.heap.size + 1 + 1), 6, none⟩ = some (.int .u8 (Y 4).1) := (aa n3.out 6).trans rfl; have d7 : w2.cell? ⟨(w.heap.size + 1 + 1), 7, none⟩ = some (.int .u8 (Y 4).2.1) := (aa n3.out 7).trans rfl; have d8 : w2.cell? ⟨(w.heap.size + 1 + 1), 8, none⟩ = some (.int .u8 (Y 4).2.2.1) := (aa n3.out 8).trans rfl; have d9 : w2.cell? ⟨(w.heap.size + 1 + 1), 9, none⟩ = some (.int .u16 (Y 4).2.2.2.1) := (aa n3.out 9).trans rfl; have d10 : w2.cell? ⟨(w.heap.size + 1 + 1), 10, none⟩ = some (.bool (Y 4).2.2.2.2.1) := (aa n3.out 10).trans rfl; have d11 : w2.cell? ⟨(w.heap.size + 1 + 1), 11, none⟩ = some (.bool (Y 4).2.2.2.2.2) := (aa n3.out 11).trans rfl; have fz := fun i => ae n3.out i))
   refine ⟨⟨10, rfl, ab.mk ⟨by omega, ?_, ?_, ?_, ?_⟩⟩, by simp [intOf]⟩
   ·exact (al (al (al (al (al (al n1.out (by simp; omega) _) (by simp; omega) _) (by simp; omega) _) (by simp; omega) _) (by simp; omega) _) (by simp; omega) _)
   ·exact (al (al (al (al (al (al n2.out (by simp) _) (by simp) _) (by simp) _) (by simp) _) (by simp) _) (by simp) _)
   ·exact (an (an (an (an (an (an n3.out 6 _ rfl) 7 _ rfl) 8 _ rfl) 9 _ rfl) 10 _ rfl) 11 _ rfl)
   ·exact (ag (ag (ag (ag (ag (ag n4.out (by omega)) (by omega)) (by omega)) (by omega)) (by omega)) (by omega))
  ·rcases HV.out with ⟨rfl, rfl⟩ | ⟨rfl, rfl⟩
   ·have HC := ab.mk hcmp
    clear hcmp
    go_wp2_with fail
    have c0 : wr.cell? ⟨(w.heap.size + 1 + 1), 0, none⟩ = some (.int .u8 (X 5).1) := (aa B3.out 0).trans rfl
    have c1 : wr.cell? ⟨(w.heap.size + 1 + 1), 1, none⟩ = some (.int .u8 (X 5).2.1) := (aa B3.out 1).trans rfl
    have c2 : wr.cell? ⟨(w.heap.size + 1 + 1), 2, none⟩ = some (.int .u8 (X 5).2.2.1) := (aa B3.out 2).trans rfl
    have c3 : wr.cell? ⟨(w.heap.size + 1 + 1), 3, none⟩ = some (.int .u16 (X 5).2.2.2.1) := (aa B3.out 3).trans rfl
    have c4 : wr.cell? ⟨(w.heap.size + 1 + 1), 4, none⟩ = some (.bool (X 5).2.2.2.2.1) := (aa B3.out 4).trans rfl
    have c5 : wr.cell? ⟨(w.heap.size + 1 + 1), 5, none⟩ = some (.bool (X 5).2.2.2.2.2) := (aa B3.out 5).trans rfl
    have c6 : wr.cell? ⟨(w.heap.size + 1 + 1), 6, none⟩ = some (.int .u8 (Y 5).1) := (aa B3.out 6).trans rfl
    have c7 : wr.cell? ⟨(w.heap.size + 1 + 1), 7, none⟩ = some (.int .u8 (Y 5).2.1) := (aa B3.out 7).trans rfl
    have c8 : wr.cell? ⟨(w.heap.size + 1 + 1), 8, none⟩ = some (.int .u8 (Y 5).2.2.1) := (aa B3.out 8).trans rfl
    have c9 : wr.cell? ⟨(w.heap.size + 1 + 1), 9, none⟩ = some (.int .u16 (Y 5).2.2.2.1) := (aa B3.out 9).trans rfl
    have c10 : wr.cell? ⟨(w.heap.size + 1 + 1), 10, none⟩ = some (.bool (Y 5).2.2.2.2.1) := (aa B3.out 10).trans rfl
    have c11 : wr.cell? ⟨(w.heap.size + 1 + 1), 11, none⟩ = some (.bool (Y 5).2.2.2.2.2) := (aa B3.out 11).trans rfl
    have hkwr : (convert 22 9 (.slice (some ad) 10 c)).run Try.prog wr = .ok (.string (strOfNums l)) wr := Kd.C_string Try.underlying22 Try.underlying5 Try.underlying9 CB.out
    have hdwr : (convert 22 9 (.slice (some ad) 10 c)).run Try.prog wr.drew = .ok (.string (strOfNums l)) wr.drew := Kd.C_string Try.underlying22 Try.underlying5 Try.underlying9 (Kd.C_drew CB.out)
    go_cut [44] from 36 to 44 (fun v w9 => v = .bool false ∧ ab (w9.heap[w.heap.size]? = some (.cells #[.int .u8 0, .int .u8 0, .int .u8 0, .int .u16 0, .bool false, .bool false] 34 (0, 0))) ∧ ab (w9.heap[w.heap.size + 1]? = some (.cells #[.int .u8 0, .int .u8 0, .int .u8 0, .int .u16 0, .bool false, .bool false] 34 (0, 0))) ∧ ab (w9.heap[w.heap.size + 1 + 1]? = some (.cells (stOf X Y 10) 120 (0, 0))) ∧ ab (Below w.heap.size w w9))
    case first =>
     go_region_with (first | (go_at_call 48; ((with_reducible refine (bp.calls (X 5).1 (X 5).2.1 (X 5).2.2.1 (X 5).2.2.2.1 (X 5).2.2.2.2.1 (X 5).2.2.2.2.2 (Y 5).1 (Y 5).2.1 (Y 5).2.2.1 (Y 5).2.2.2.1 (Y 5).2.2.2.2.1 (Y 5).2.2.2.2.2 r _ HY.out).mono ?_)); rintro e' w9 ⟨v0, rfl, hO, hb⟩; have n1 := ab.mk ((hb.block _ (aZ B1.out)).trans B1.out); have n2 := ab.mk ((hb.block _ (aZ B2.out)).trans B2.out); have n3 := ab.mk ((hb.block _ (aZ B3.out)).trans B3.out); have n4 := ab.mk (by first | exact ak (aj HB.out) hb | exact ak HB.out hb); clear hb; have CB9 := ab.mk (Kd.C_below HR.out n4.out); have hkw9 : (convert 22 9 (.slice (some ad) 10 c)).run Try.prog w9 = .ok (.string (strOfNums l)) w9 := Kd.C_string Try.underlying22 Try.underlying5 Try.underlying9 CB9.out; have hdw9 : (convert 22 9 (.slice (some ad) 10 c)).run Try.prog w9.drew = .ok (.string (strOfNums l)) w9.drew := Kd.C_string Try.underlying22 Try.underlying5 Try.underlying9 (Kd.C_drew CB9.out); have hv9 := own_string (P := Try.prog) Try.underlying22 Try.underlying5 Try.underlying9 (Kd.own_of_R hO); have hv9d : (convert 22 9 v0).run Try.prog w9.drew = .ok (.string (strOfNums r)) w9.drew := own_string (P := Try.prog) Try.underlying22 Try.underlying5 Try.underlying9 (Kd.own_of_R (Kd.R_drew hO)); clear hO; have d0 : w9.cell? ⟨(w.heap.size + 1 + 1), 0, none⟩ = some (.int .u8 (X 5).1) := (aa n3.out 0).trans rfl; have d1 : w9.cell? ⟨(w.heap.size + 1 + 1), 1, none⟩ = some (.int .u8 (X 5).2.1) := (aa n3.out 1).trans rfl; have d2 : w9.cell? ⟨(w.heap.size + 1 + 1), 2, none⟩ = some (.int .u8 (X 5).2.2.1) := (aa n3.out 2).trans rfl; have d3 : w9.cell? ⟨(w.heap.size + 1 + 1), 3, none⟩ = some (.int .u16 (X 5).2.2.2.1) := (aa n3.out 3).trans rfl; have d4 : w9.cell? ⟨(w.heap.size + 1 + 1), 4, none⟩ = some (.bool (X 5).2.2.2.2.1) := (aa n3.out 4).trans rfl; have d5 : w9.cell? ⟨(w.heap.size + 1 + 1), 5, none⟩ = some (.bool (X 5).2.2.2.2.2) := (aa n3.out 5).trans rfl; have d6 : w9.cell? ⟨(w.heap.size + 1 + 1), 6, none⟩ = some (.int .u8 (Y 5).1) := (aa n3.out 6).trans rfl; have d7 : w9.cell? ⟨(w.heap.size + 1 + 1), 7, none⟩ = some (.int .u8 (Y 5).2.1) := (aa n3.out 7).trans rfl; have d8 : w9.cell? ⟨(w.heap.size + 1 + 1), 8, none⟩ = some (.int .u8 (Y 5).2.2.1) := (aa n3.out 8).trans rfl; have d9 : w9.cell? ⟨(w.heap.size + 1 + 1), 9, none⟩ = some (.int .u16 (Y 5).2.2.2.1) := (aa n3.out 9).trans rfl; have d10 : w9.cell? ⟨(w.heap.size + 1 + 1), 10, none⟩ = some (.bool (Y 5).2.2.2.2.1) := (aa n3.out 10).trans rfl; have d11 : w9.cell? ⟨(w.heap.size + 1 + 1), 11, none⟩ = some (.bool (Y 5).2.2.2.2.2) := (aa n3.out 11).trans rfl))
     all_goals (
     have hcmp := HC.out
     rw [hcmp]
     simp only [Bool.not_true, Bool.not_false]
     go_wp2_with fail
     go_meet
     case rel => exact ⟨rfl, ⟨by first | exact n1.out | exact ap n1.out⟩, ⟨by first | exact n2.out | exact ap n2.out⟩, ⟨by first | exact n3.out | exact ap n3.out⟩, ⟨by first | exact n4.out | exact aj n4.out⟩⟩)
    case rest =>
     obtain ⟨rfl, n1, n2, n3, n4⟩ := hcut
     have d0 : wc.cell? ⟨(w.heap.size + 1 + 1), 0, none⟩ = some (.int .u8 (X 5).1) := (aa n3.out 0).trans rfl
     have d1 : wc.cell? ⟨(w.heap.size + 1 + 1), 1, none⟩ = some (.int .u8 (X 5).2.1) := (aa n3.out 1).trans rfl
     have d2 : wc.cell? ⟨(w.heap.size + 1 + 1), 2, none⟩ = some (.int .u8 (X 5).2.2.1) := (aa n3.out 2).trans rfl
     have d3 : wc.cell? ⟨(w.heap.size + 1 + 1), 3, none⟩ = some (.int .u16 (X 5).2.2.2.1) := (aa n3.out 3).trans rfl
     have d4 : wc.cell? ⟨(w.heap.size + 1 + 1), 4, none⟩ = some (.bool (X 5).2.2.2.2.1) := (aa n3.out 4).trans rfl
     have d5 : wc.cell? ⟨(w.heap.size + 1 + 1), 5, none⟩ = some (.bool (X 5).2.2.2.2.2) := (aa n3.out 5).trans rfl
     have d6 : wc.cell? ⟨(w.heap.size + 1 + 1), 6, none⟩ = some (.int .u8 (Y 5).1) := (aa n3.out 6).trans rfl
     have d7 : wc.cell? ⟨(w.heap.size + 1 + 1), 7, none⟩ = some (.int .u8 (Y 5).2.1) := (aa n3.out 7).trans rfl
     have d8 : wc.cell? ⟨(w.heap.size + 1 + 1), 8, none⟩ = some (.int .u8 (Y 5).2.2.1) := (aa n3.out 8).trans rfl
     have d9 : wc.cell? ⟨(w.heap.size + 1 + 1), 9, none⟩ = some (.int .u16 (Y 5).2.2.2.1) := (aa n3.out 9).trans rfl
     have d10 : wc.cell? ⟨(w.heap.size + 1 + 1), 10, none⟩ = some (.bool (Y 5).2.2.2.2.1) := (aa n3.out 10).trans rfl
     have d11 : wc.cell? ⟨(w.heap.size + 1 + 1), 11, none⟩ = some (.bool (Y 5).2.2.2.2.2) := (aa n3.out 11).trans rfl
     have x0 : wc.cell? ⟨w.heap.size, 0, none⟩ = some (.int .u8 0) := (aa n1.out 0).trans rfl
     have x1 : wc.cell? ⟨w.heap.size, 1, none⟩ = some (.int .u8 0) := (aa n1.out 1).trans rfl
     have x2 : wc.cell? ⟨w.heap.size, 2, none⟩ = some (.int .u8 0) := (aa n1.out 2).trans rfl
     have x3 : wc.cell? ⟨w.heap.size, 3, none⟩ = some (.int .u16 0) := (aa n1.out 3).trans rfl
     have x4 : wc.cell? ⟨w.heap.size, 4, none⟩ = some (.bool false) := (aa n1.out 4).trans rfl
     have x5 : wc.cell? ⟨w.heap.size, 5, none⟩ = some (.bool false) := (aa n1.out 5).trans rfl
     have y0 : wc.cell? ⟨w.heap.size + 1, 0, none⟩ = some (.int .u8 0) := (aa n2.out 0).trans rfl
     have y1 : wc.cell? ⟨w.heap.size + 1, 1, none⟩ = some (.int .u8 0) := (aa n2.out 1).trans rfl
     have y2 : wc.cell? ⟨w.heap.size + 1, 2, none⟩ = some (.int .u8 0) := (aa n2.out 2).trans rfl
     have y3 : wc.cell? ⟨w.heap.size + 1, 3, none⟩ = some (.int .u16 0) := (aa n2.out 3).trans rfl
     have y4 : wc.cell? ⟨w.heap.size + 1, 4, none⟩ = some (.bool false) := (aa n2.out 4).trans rfl
     have y5 : wc.cell? ⟨w.heap.size + 1, 5, none⟩ = some (.bool false) := (aa n2.out 5).trans rfl
     have f1 := fun i => ae n1.out i
     have f2 := fun i => ae n2.out i
     go_wp2
     go_region
     go_wp2
     have m1 : (((((((((((((wc.setCell ⟨w.heap.size, 0, none⟩ (.int .u8 (X 5).1)).setCell ⟨w.heap.size, 1, none⟩ (.int .u8 (X 5).2.1)).setCell ⟨w.heap.size, 2, none⟩ (.int .u8 (X 5).2.2.1)).setCell ⟨w.heap.size, 3, none⟩ (.int .u16 (X 5).2.2.2.1)).setCell ⟨w.heap.size, 4, none⟩ (.bool (X 5).2.2.2.2.1)).setCell ⟨w.heap.size, 5, none⟩ (.bool (X 5).2.2.2.2.2)).setCell ⟨w.heap.size + 1, 0, none⟩ (.int .u8 (Y 5).1)).setCell ⟨w.heap.size + 1, 1, none⟩ (.int .u8 (Y 5).2.1)).setCell ⟨w.heap.size + 1, 2, none⟩ (.int .u8 (Y 5).2.2.1)).setCell ⟨w.heap.size + 1, 3, none⟩ (.int .u16 (Y 5).2.2.2.1)).setCell ⟨w.heap.size + 1, 4, none⟩ (.bool (Y 5).2.2.2.2.1)).setCell ⟨w.heap.size + 1, 5, none⟩ (.bool (Y 5).2.2.2.2.2)).drew).heap[w.heap.size]? = some (.cells #[.int .u8 (X 5).1, .int .u8 (X 5).2.1, .int .u8 (X 5).2.2.1, .int .u16 (X 5).2.2.2.1, .bool (X 5).2.2.2.2.1, .bool (X 5).2.2.2.2.2] 34 (0, 0)) := (ap (al (al (al (al (al (al (an (an (an (an (an (an n1.out 0 _ rfl) 1 _ rfl) 2 _ rfl) 3 _ rfl) 4 _ rfl) 5 _ rfl) (by simp) _) (by simp) _) (by simp) _) (by simp) _) (by simp) _) (by simp) _))
     have m2 : (((((((((((((wc.setCell ⟨w.heap.size, 0, none⟩ (.int .u8 (X 5).1)).setCell ⟨w.heap.size, 1, none⟩ (.int .u8 (X 5).2.1)).setCell ⟨w.heap.size, 2, none⟩ (.int .u8 (X 5).2.2.1)).setCell ⟨w.heap.size, 3, none⟩ (.int .u16 (X 5).2.2.2.1)).setCell ⟨w.heap.size, 4, none⟩ (.bool (X 5).2.2.2.2.1)).setCell ⟨w.heap.size, 5, none⟩ (.bool (X 5).2.2.2.2.2)).setCell ⟨w.heap.size + 1, 0, none⟩ (.int .u8 (Y 5).1)).setCell ⟨w.heap.size + 1, 1, none⟩ (.int .u8 (Y 5).2.1)).setCell ⟨w.heap.size + 1, 2, none⟩ (.int .u8 (Y 5).2.2.1)).setCell ⟨w.heap.size + 1, 3, none⟩ (.int .u16 (Y 5).2.2.2.1)).setCell ⟨w.heap.size + 1, 4, none⟩ (.bool (Y 5).2.2.2.2.1)).setCell ⟨w.heap.size + 1, 5, none⟩ (.bool (Y 5).2.2.2.2.2)).drew).heap[w.heap.size + 1]? = some (.cells #[.int .u8 (Y 5).1, .int .u8 (Y 5).2.1, .int .u8 (Y 5).2.2.1, .int .u16 (Y 5).2.2.2.1, .bool (Y 5).2.2.2.2.1, .bool (Y 5).2.2.2.2.2] 34 (0, 0)) := (ap (an (an (an (an (an (an (al (al (al (al (al (al n2.out (by simp) _) (by simp) _) (by simp) _) (by simp) _) (by simp) _) (by simp) _) 0 _ rfl) 1 _ rfl) 2 _ rfl) 3 _ rfl) 4 _ rfl) 5 _ rfl))
     have m3 : Below w.heap.size w (((((((((((((wc.setCell ⟨w.heap.size, 0, none⟩ (.int .u8 (X 5).1)).setCell ⟨w.heap.size, 1, none⟩ (.int .u8 (X 5).2.1)).setCell ⟨w.heap.size, 2, none⟩ (.int .u8 (X 5).2.2.1)).setCell ⟨w.heap.size, 3, none⟩ (.int .u16 (X 5).2.2.2.1)).setCell ⟨w.heap.size, 4, none⟩ (.bool (X 5).2.2.2.2.1)).setCell ⟨w.heap.size, 5, none⟩ (.bool (X 5).2.2.2.2.2)).setCell ⟨w.heap.size + 1, 0, none⟩ (.int .u8 (Y 5).1)).setCell ⟨w.heap.size + 1, 1, none⟩ (.int .u8 (Y 5).2.1)).setCell ⟨w.heap.size + 1, 2, none⟩ (.int .u8 (Y 5).2.2.1)).setCell ⟨w.heap.size + 1, 3, none⟩ (.int .u16 (Y 5).2.2.2.1)).setCell ⟨w.heap.size + 1, 4, none⟩ (.bool (Y 5).2.2.2.2.1)).setCell ⟨w.heap.size + 1, 5, none⟩ (.bool (Y 5).2.2.2.2.2)).drew) := (aj (ag (ag (ag (ag (ag (ag (ag (ag (ag (ag (ag (ag n4.out (Nat.le_refl _)) (Nat.le_refl _)) (Nat.le_refl _)) (Nat.le_refl _)) (Nat.le_refl _)) (Nat.le_refl _)) (Nat.le_succ _)) (Nat.le_succ _)) (Nat.le_succ _)) (Nat.le_succ _)) (Nat.le_succ _)) (Nat.le_succ _)))
     generalize (((((((((((((wc.setCell ⟨w.heap.size, 0, none⟩ (.int .u8 (X 5).1)).setCell ⟨w.heap.size, 1, none⟩ (.int .u8 (X 5).2.1)).setCell ⟨w.heap.size, 2, none⟩ (.int .u8 (X 5).2.2.1)).setCell ⟨w.heap.size, 3, none⟩ (.int .u16 (X 5).2.2.2.1)).setCell ⟨w.heap.size, 4, none⟩ (.bool (X 5).2.2.2.2.1)).setCell ⟨w.heap.size, 5, none⟩ (.bool (X 5).2.2.2.2.2)).setCell ⟨w.heap.size + 1, 0, none⟩ (.int .u8 (Y 5).1)).setCell ⟨w.heap.size + 1, 1, none⟩ (.int .u8 (Y 5).2.1)).setCell ⟨w.heap.size + 1, 2, none⟩ (.int .u8 (Y 5).2.2.1)).setCell ⟨w.heap.size + 1, 3, none⟩ (.int .u16 (Y 5).2.2.2.1)).setCell ⟨w.heap.size + 1, 4, none⟩ (.bool (Y 5).2.2.2.2.1)).setCell ⟨w.heap.size + 1, 5, none⟩ (.bool (Y 5).2.2.2.2.2)).drew) = YY at m1 m2 m3 ⊢
     have u0 : YY.cell? ⟨w.heap.size, 0, none⟩ = some (.int .u8 (X 5).1) := (aa m1 0).trans rfl
     have t0 : YY.cell? ⟨w.heap.size + 1, 0, none⟩ = some (.int .u8 (Y 5).1) := (aa m2 0).trans rfl
     have u1 : YY.cell? ⟨w.heap.size, 1, none⟩ = some (.int .u8 (X 5).2.1) := (aa m1 1).trans rfl
     have t1 : YY.cell? ⟨w.heap.size + 1, 1, none⟩ = some (.int .u8 (Y 5).2.1) := (aa m2 1).trans rfl
     have u2 : YY.cell? ⟨w.heap.size, 2, none⟩ = some (.int .u8 (X 5).2.2.1) := (aa m1 2).trans rfl
     have t2 : YY.cell? ⟨w.heap.size + 1, 2, none⟩ = some (.int .u8 (Y 5).2.2.1) := (aa m2 2).trans rfl
     have u3 : YY.cell? ⟨w.heap.size, 3, none⟩ = some (.int .u16 (X 5).2.2.2.1) := (aa m1 3).trans rfl
     have t3 : YY.cell? ⟨w.heap.size + 1, 3, none⟩ = some (.int .u16 (Y 5).2.2.2.1) := (aa m2 3).trans rfl
     have u4 : YY.cell? ⟨w.heap.size, 4, none⟩ = some (.bool (X 5).2.2.2.2.1) := (aa m1 4).trans rfl
     have t4 : YY.cell? ⟨w.heap.size + 1, 4, none⟩ = some (.bool (Y 5).2.2.2.2.1) := (aa m2 4).trans rfl
     have u5 : YY.cell? ⟨w.heap.size, 5, none⟩ = some (.bool (X 5).2.2.2.2.2) := (aa m1 5).trans rfl
     have t5 : YY.cell? ⟨w.heap.size + 1, 5, none⟩ = some (.bool (Y 5).2.2.2.2.2) := (aa m2 5).trans rfl
     exact bodyPost_ret (v := .tuple #[.agg #[.int .u8 (X 5).1, .int .u8 (X 5).2.1, .int .u8 (X 5).2.2.1, .int .u16 (X 5).2.2.2.1, .bool (X 5).2.2.2.2.1, .bool (X 5).2.2.2.2.2], .agg #[.int .u8 (Y 5).1, .int .u8 (Y 5).2.1, .int .u8 (Y 5).2.2.1, .int .u16 (Y 5).2.2.2.1, .bool (Y 5).2.2.2.2.1, .bool (Y 5).2.2.2.2.2], .int .i64 0]) (by simp [results, Try.results50, go_sem, u0, t0, u1, t1, u2, t2, u3, t3, u4, t4, u5, t5]) rfl ⟨rfl, m3⟩
   ·have HC := ab.mk hcmp
    clear hcmp
    go_wp2_with fail
    have c0 : wr.cell? ⟨(w.heap.size + 1 + 1), 0, none⟩ = some (.int .u8 (X 5).1) := (aa B3.out 0).trans rfl
    have c1 : wr.cell? ⟨(w.heap.size + 1 + 1), 1, none⟩ = some (.int .u8 (X 5).2.1) := (aa B3.out 1).trans rfl
    have c2 : wr.cell? ⟨(w.heap.size + 1 + 1), 2, none⟩ = some (.int .u8 (X 5).2.2.1) := (aa B3.out 2).trans rfl
    have c3 : wr.cell? ⟨(w.heap.size + 1 + 1), 3, none⟩ = some (.int .u16 (X 5).2.2.2.1) := (aa B3.out 3).trans rfl
    have c4 : wr.cell? ⟨(w.heap.size + 1 + 1), 4, none⟩ = some (.bool (X 5).2.2.2.2.1) := (aa B3.out 4).trans rfl
    have c5 : wr.cell? ⟨(w.heap.size + 1 + 1), 5, none⟩ = some (.bool (X 5).2.2.2.2.2) := (aa B3.out 5).trans rfl
    have c6 : wr.cell? ⟨(w.heap.size + 1 + 1), 6, none⟩ = some (.int .u8 (Y 5).1) := (aa B3.out 6).trans rfl
    have c7 : wr.cell? ⟨(w.heap.size + 1 + 1), 7, none⟩ = some (.int .u8 (Y 5).2.1) := (aa B3.out 7).trans rfl
    have c8 : wr.cell? ⟨(w.heap.size + 1 + 1), 8, none⟩ = some (.int .u8 (Y 5).2.2.1) := (aa B3.out 8).trans rfl
    have c9 : wr.cell? ⟨(w.heap.size + 1 + 1), 9, none⟩ = some (.int .u16 (Y 5).2.2.2.1) := (aa B3.out 9).trans rfl
    have c10 : wr.cell? ⟨(w.heap.size + 1 + 1), 10, none⟩ = some (.bool (Y 5).2.2.2.2.1) := (aa B3.out 10).trans rfl
    have c11 : wr.cell? ⟨(w.heap.size + 1 + 1), 11, none⟩ = some (.bool (Y 5).2.2.2.2.2) := (aa B3.out 11).trans rfl
    have hkwr : (convert 22 9 (.slice (some ad) 10 c)).run Try.prog wr = .ok (.string (strOfNums l)) wr := Kd.C_string Try.underlying22 Try.underlying5 Try.underlying9 CB.out
    have hdwr : (convert 22 9 (.slice (some ad) 10 c)).run Try.prog wr.drew = .ok (.string (strOfNums l)) wr.drew := Kd.C_string Try.underlying22 Try.underlying5 Try.underlying9 (Kd.C_drew CB.out)
    go_cut [44] from 36 to 44 (fun v w9 => v = .bool true ∧ ab (w9.heap[w.heap.size]? = some (.cells #[.int .u8 0, .int .u8 0, .int .u8 0, .int .u16 0, .bool false, .bool false] 34 (0, 0))) ∧ ab (w9.heap[w.heap.size + 1]? = some (.cells #[.int .u8 0, .int .u8 0, .int .u8 0, .int .u16 0, .bool false, .bool false] 34 (0, 0))) ∧ ab (w9.heap[w.heap.size + 1 + 1]? = some (.cells (stOf X Y 10) 120 (0, 0))) ∧ ab (Below w.heap.size w w9))
    case first =>
     go_region_with (first | (go_at_call 48; ((with_reducible refine (bp.calls (X 5).1 (X 5).2.1 (X 5).2.2.1 (X 5).2.2.2.1 (X 5).2.2.2.2.1 (X 5).2.2.2.2.2 (Y 5).1 (Y 5).2.1 (Y 5).2.2.1 (Y 5).2.2.2.1 (Y 5).2.2.2.2.1 (Y 5).2.2.2.2.2 r _ HY.out).mono ?_)); rintro e' w9 ⟨v0, rfl, hO, hb⟩; have n1 := ab.mk ((hb.block _ (aZ B1.out)).trans B1.out); have n2 := ab.mk ((hb.block _ (aZ B2.out)).trans B2.out); have n3 := ab.mk ((hb.block _ (aZ B3.out)).trans B3.out); have n4 := ab.mk (by first | exact ak (aj HB.out) hb | exact ak HB.out hb); clear hb; have CB9 := ab.mk (Kd.C_below HR.out n4.out); have hkw9 : (convert 22 9 (.slice (some ad) 10 c)).run Try.prog w9 = .ok (.string (strOfNums l)) w9 := Kd.C_string Try.underlying22 Try.underlying5 Try.underlying9 CB9.out; have hdw9 : (convert 22 9 (.slice (some ad) 10 c)).run Try.prog w9.drew = .ok (.string (strOfNums l)) w9.drew := Kd.C_string Try.underlying22 Try.underlying5 Try.underlying9 (Kd.C_drew CB9.out); have hv9 := own_string (P := Try.prog) Try.underlying22 Try.underlying5 Try.underlying9 (Kd.own_of_R hO); have hv9d : (convert 22 9 v0).run Try.prog w9.drew = .ok (.string (strOfNums r)) w9.drew := own_string (P := Try.prog) Try.underlying22 Try.underlying5 Try.underlying9 (Kd.own_of_R (Kd.R_drew hO)); clear hO; have d0 : w9.cell? ⟨(w.heap.size + 1 + 1), 0, none⟩ = some (.int .u8 (X 5).1) := (aa n3.out 0).trans rfl; have d1 : w9.cell? ⟨(w.heap.size + 1 + 1), 1, none⟩ = some (.int .u8 (X 5).2.1) := (aa n3.out 1).trans rfl; have d2 : w9.cell? ⟨(w.heap.size + 1 + 1), 2, none⟩ = some (.int .u8 (X 5).2.2.1) := (aa n3.out 2).trans rfl; have d3 : w9.cell? ⟨(w.heap.size + 1 + 1), 3, none⟩ = some (.int .u16 (X 5).2.2.2.1) := (aa n3.out 3).trans rfl; have d4 : w9.cell? ⟨(w.heap.size + 1 + 1), 4, none⟩ = some (.bool (X 5).2.2.2.2.1) := (aa n3.out 4).trans rfl; have d5 : w9.cell? ⟨(w.heap.size + 1 + 1), 5, none⟩ = some (.bool (X 5).2.2.2.2.2) := (aa n3.out 5).trans rfl; have d6 : w9.cell? ⟨(w.heap.size + 1 + 1), 6, none⟩ = some (.int .u8 (Y 5).1) := (aa n3.out 6).trans rfl; have d7 : w9.cell? ⟨(w.heap.size + 1 + 1), 7, none⟩ = some (.int .u8 (Y 5).2.1) := (aa n3.out 7).trans rfl; have d8 : w9.cell? ⟨(w.heap.size + 1 + 1), 8, none⟩ = some (.int .u8 (Y 5).2.2.1) := (aa n3.out 8).trans rfl; have d9 : w9.cell? ⟨(w.heap.size + 1 + 1), 9, none⟩ = some (.int .u16 (Y 5).2.2.2.1) := (aa n3.out 9).trans rfl; have d10 : w9.cell? ⟨(w.heap.size + 1 + 1), 10, none⟩ = some (.bool (Y 5).2.2.2.2.1) := (aa n3.out 10).trans rfl; have d11 : w9.cell? ⟨(w.heap.size + 1 + 1), 11, none⟩ = some (.bool (Y 5).2.2.2.2.2) := (aa n3.out 11).trans rfl))
     all_goals (
     have hcmp := HC.out
     rw [hcmp]
     simp only [Bool.not_true, Bool.not_false]
     go_wp2_with fail
     go_meet
     case rel => exact ⟨rfl, ⟨by first | exact n1.out | exact ap n1.out⟩, ⟨by first | exact n2.out | exact ap n2.out⟩, ⟨by first | exact n3.out | exact ap n3.out⟩, ⟨by first | exact n4.out | exact aj n4.out⟩⟩)
    case rest =>
     obtain ⟨rfl, n1, n2, n3, n4⟩ := hcut
     have x0 : wc.cell? ⟨w.heap.size, 0, none⟩ = some (.int .u8 0) := (aa n1.out 0).trans rfl
     have x1 : wc.cell? ⟨w.heap.size, 1, none⟩ = some (.int .u8 0) := (aa n1.out 1).trans rfl
     have x2 : wc.cell? ⟨w.heap.size, 2, none⟩ = some (.int .u8 0) := (aa n1.out 2).trans rfl
     have x3 : wc.cell? ⟨w.heap.size, 3, none⟩ = some (.int .u16 0) := (aa n1.out 3).trans rfl
     have x4 : wc.cell? ⟨w.heap.size, 4, none⟩ = some (.bool false) := (aa n1.out 4).trans rfl
     have x5 : wc.cell? ⟨w.heap.size, 5, none⟩ = some (.bool false) := (aa n1.out 5).trans rfl
     have y0 : wc.cell? ⟨w.heap.size + 1, 0, none⟩ = some (.int .u8 0) := (aa n2.out 0).trans rfl
     have y1 : wc.cell? ⟨w.heap.size + 1, 1, none⟩ = some (.int .u8 0) := (aa n2.out 1).trans rfl
     have y2 : wc.cell? ⟨w.heap.size + 1, 2, none⟩ = some (.int .u8 0) := (aa n2.out 2).trans rfl
     have y3 : wc.cell? ⟨w.heap.size + 1, 3, none⟩ = some (.int .u16 0) := (aa n2.out 3).trans rfl
     have y4 : wc.cell? ⟨w.heap.size + 1, 4, none⟩ = some (.bool false) := (aa n2.out 4).trans rfl
     have y5 : wc.cell? ⟨w.heap.size + 1, 5, none⟩ = some (.bool false) := (aa n2.out 5).trans rfl
     have f1 := fun i => ae n1.out i
     have f2 := fun i => ae n2.out i
     go_wp2
     have m1 : ((((((((((((wc.setCell ⟨w.heap.size, 0, none⟩ (.int .u8 0)).setCell ⟨w.heap.size, 1, none⟩ (.int .u8 0)).setCell ⟨w.heap.size, 2, none⟩ (.int .u8 0)).setCell ⟨w.heap.size, 3, none⟩ (.int .u16 0)).setCell ⟨w.heap.size, 4, none⟩ (.bool false)).setCell ⟨w.heap.size, 5, none⟩ (.bool false)).setCell ⟨w.heap.size + 1, 0, none⟩ (.int .u8 0)).setCell ⟨w.heap.size + 1, 1, none⟩ (.int .u8 0)).setCell ⟨w.heap.size + 1, 2, none⟩ (.int .u8 0)).setCell ⟨w.heap.size + 1, 3, none⟩ (.int .u16 0)).setCell ⟨w.heap.size + 1, 4, none⟩ (.bool false)).setCell ⟨w.heap.size + 1, 5, none⟩ (.bool false)).heap[w.heap.size]? = some (.cells #[.int .u8 0, .int .u8 0, .int .u8 0, .int .u16 0, .bool false, .bool false] 34 (0, 0)) := (al (al (al (al (al (al (an (an (an (an (an (an n1.out 0 _ rfl) 1 _ rfl) 2 _ rfl) 3 _ rfl) 4 _ rfl) 5 _ rfl) (by simp) _) (by simp) _) (by simp) _) (by simp) _) (by simp) _) (by simp) _)
     have m2 : ((((((((((((wc.setCell ⟨w.heap.size, 0, none⟩ (.int .u8 0)).setCell ⟨w.heap.size, 1, none⟩ (.int .u8 0)).setCell ⟨w.heap.size, 2, none⟩ (.int .u8 0)).setCell ⟨w.heap.size, 3, none⟩ (.int .u16 0)).setCell ⟨w.heap.size, 4, none⟩ (.bool false)).setCell ⟨w.heap.size, 5, none⟩ (.bool false)).setCell ⟨w.heap.size + 1, 0, none⟩ (.int .u8 0)).setCell ⟨w.heap.size + 1, 1, none⟩ (.int .u8 0)).setCell ⟨w.heap.size + 1, 2, none⟩ (.int .u8 0)).setCell ⟨w.heap.size + 1, 3, none⟩ (.int .u16 0)).setCell ⟨w.heap.size + 1, 4, none⟩ (.bool false)).setCell ⟨w.heap.size + 1, 5, none⟩ (.bool false)).heap[w.heap.size + 1]? = some (.cells #[.int .u8 0, .int .u8 0, .int .u8 0, .int .u16 0, .bool false, .bool false] 34 (0, 0)) := (an (an (an (an (an (an (al (al (al (al (al (al n2.out (by simp) _) (by simp) _) (by simp) _) (by simp) _) (by simp) _) (by simp) _) 0 _ rfl) 1 _ rfl) 2 _ rfl) 3 _ rfl) 4 _ rfl) 5 _ rfl)
     have m3 : Below w.heap.size w ((((((((((((wc.setCell ⟨w.heap.size, 0, none⟩ (.int .u8 0)).setCell ⟨w.heap.size, 1, none⟩ (.int .u8 0)).setCell ⟨w.heap.size, 2, none⟩ (.int .u8 0)).setCell ⟨w.heap.size, 3, none⟩ (.int .u16 0)).setCell ⟨w.heap.size, 4, none⟩ (.bool false)).setCell ⟨w.heap.size, 5, none⟩ (.bool false)).setCell ⟨w.heap.size + 1, 0, none⟩ (.int .u8 0)).setCell ⟨w.heap.size + 1, 1, none⟩ (.int .u8 0)).setCell ⟨w.heap.size + 1, 2, none⟩ (.int .u8 0)).setCell ⟨w.heap.size + 1, 3, none⟩ (.int .u16 0)).setCell ⟨w.heap.size + 1, 4, none⟩ (.bool false)).setCell ⟨w.heap.size + 1, 5, none⟩ (.bool false)) := (ag (ag (ag (ag (ag (ag (ag (ag (ag (ag (ag (ag n4.out (Nat.le_refl _)) (Nat.le_refl _)) (Nat.le_refl _)) (Nat.le_refl _)) (Nat.le_refl _)) (Nat.le_refl _)) (Nat.le_succ _)) (Nat.le_succ _)) (Nat.le_succ _)) (Nat.le_succ _)) (Nat.le_succ _)) (Nat.le_succ _))
     generalize ((((((((((((wc.setCell ⟨w.heap.size, 0, none⟩ (.int .u8 0)).setCell ⟨w.heap.size, 1, none⟩ (.int .u8 0)).setCell ⟨w.heap.size, 2, none⟩ (.int .u8 0)).setCell ⟨w.heap.size, 3, none⟩ (.int .u16 0)).setCell ⟨w.heap.size, 4, none⟩ (.bool false)).setCell ⟨w.heap.size, 5, none⟩ (.bool false)).setCell ⟨w.heap.size + 1, 0, none⟩ (.int .u8 0)).setCell ⟨w.heap.size + 1, 1, none⟩ (.int .u8 0)).setCell ⟨w.heap.size + 1, 2, none⟩ (.int .u8 0)).setCell ⟨w.heap.size + 1, 3, none⟩ (.int .u16 0)).setCell ⟨w.heap.size + 1, 4, none⟩ (.bool false)).setCell ⟨w.heap.size + 1, 5, none⟩ (.bool false)) = YY at m1 m2 m3 ⊢
     have u0 : YY.cell? ⟨w.heap.size, 0, none⟩ = some (.int .u8 0) := (aa m1 0).trans rfl
     have t0 : YY.cell? ⟨w.heap.size + 1, 0, none⟩ = some (.int .u8 0) := (aa m2 0).trans rfl
     have u1 : YY.cell? ⟨w.heap.size, 1, none⟩ = some (.int .u8 0) := (aa m1 1).trans rfl
     have t1 : YY.cell? ⟨w.heap.size + 1, 1, none⟩ = some (.int .u8 0) := (aa m2 1).trans rfl
     have u2 : YY.cell? ⟨w.heap.size, 2, none⟩ = some (.int .u8 0) := (aa m1 2).trans rfl
     have t2 : YY.cell? ⟨w.heap.size + 1, 2, none⟩ = some (.int .u8 0) := (aa m2 2).trans rfl
     have u3 : YY.cell? ⟨w.heap.size, 3, none⟩ = some (.int .u16 0) := (aa m1 3).trans rfl
     have t3 : YY.cell? ⟨w.heap.size + 1, 3, none⟩ = some (.int .u16 0) := (aa m2 3).trans rfl
     have u4 : YY.cell? ⟨w.heap.size, 4, none⟩ = some (.bool false) := (aa m1 4).trans rfl
     have t4 : YY.cell? ⟨w.heap.size + 1, 4, none⟩ = some (.bool false) := (aa m2 4).trans rfl
     have u5 : YY.cell? ⟨w.heap.size, 5, none⟩ = some (.bool false) := (aa m1 5).trans rfl
     have t5 : YY.cell? ⟨w.heap.size + 1, 5, none⟩ = some (.bool false) := (aa m2 5).trans rfl
     exact bodyPost_ret (v := .tuple #[.agg #[.int .u8 0, .int .u8 0, .int .u8 0, .int .u16 0, .bool false, .bool false], .agg #[.int .u8 0, .int .u8 0, .int .u8 0, .int .u16 0, .bool false, .bool false], .int .i64 6]) (by simp [results, Try.results50, go_sem, u0, t0, u1, t1, u2, t2, u3, t3, u4, t4, u5, t5]) rfl ⟨rfl, m3⟩
theorem of_ok (A : Option Addr) (c : Nat) (l : List Int) (hl : l.length = 10) (X Y : Nat → C6) (e0 e1 e2 e3 e4 e5 e6 e7 e8 e9 : Int) (hX0 : X 0 = (0, 0, 0, 0, false, false)) (hY0 : Y 0 = (0, 0, 0, 0, false, false)) (h0 : av.f (X 0).1 (X 0).2.1 (X 0).2.2.1 (X 0).2.2.2.1 (X 0).2.2.2.2.1 (X 0).2.2.2.2.2 8 (rd l 0) = some ((X 1).1, (X 1).2.1, (X 1).2.2.1, (X 1).2.2.2.1, (X 1).2.2.2.2.1, (X 1).2.2.2.2.2, e0)) (h1 : av.f (X 1).1 (X 1).2.1 (X 1).2.2.1 (X 1).2.2.2.1 (X 1).2.2.2.2.1 (X 1).2.2.2.2.2 9 (rd l 1) = some ((X 2).1, (X 2).2.1, (X 2).2.2.1, (X 2).2.2.2.1, (X 2).2.2.2.2.1, (X 2).2.2.2.2.2, e1)) (h2 : av.f (X 2).1 (X 2).2.1 (X 2).2.2.1 (X 2).2.2.2.1 (X 2).2.2.2.2.1 (X 2).2.2.2.2.2 10 (rd l 2) = some ((X 3).1, (X 3).2.1, (X 3).2.2.1, (X 3).2.2.2.1, (X 3).2.2.2.2.1, (X 3).2.2.2.2.2, e2)) (h3 : av.f (X 3).1 (X 3).2.1 (X 3).2.2.1 (X 3).2.2.2.1 (X 3).2.2.2.2.1 (X 3).2.2.2.2.2 11 (rd l 3) = some ((X 4).1, (X 4).2.1, (X 4).2.2.1, (X 4).2.2.2.1, (X 4).2.2.2.2.1, (X 4).2.2.2.2.2, e3)) (h4 : av.f (X 4).1 (X 4).2.1 (X 4).2.2.1 (X 4).2.2.2.1 (X 4).2.2.2.2.1 (X 4).2.2.2.2.2 12 (rd l 4) = some ((X 5).1, (X 5).2.1, (X 5).2.2.1, (X 5).2.2.2.1, (X 5).2.2.2.2.1, (X 5).2.2.2.2.2, e4)) (h5 : av.f (Y 0).1 (Y 0).2.1 (Y 0).2.2.1 (Y 0).2.2.2.1 (Y 0).2.2.2.2.1 (Y 0).2.2.2.2.2 8 (rd l 5) = some ((Y 1).1, (Y 1).2.1, (Y 1).2.2.1, (Y 1).2.2.2.1, (Y 1).2.2.2.2.1, (Y 1).2.2.2.2.2, e5)) (h6 : av.f (Y 1).1 (Y 1).2.1 (Y 1).2.2.1 (Y 1).2.2.2.1 (Y 1).2.2.2.2.1 (Y 1).2.2.2.2.2 9 (rd l 6) = some ((Y 2).1, (Y 2).2.1, (Y 2).2.2.1, (Y 2).2.2.2.1, (Y 2).2.2.2.2.1, (Y 2).2.2.2.2.2, e6)) (h7 : av.f (Y 2).1 (Y 2).2.1 (Y 2).2.2.1 (Y 2).2.2.2.1 (Y 2).2.2.2.2.1 (Y 2).2.2.2.2.2 10 (rd l 7) = some ((Y 3).1, (Y 3).2.1, (Y 3).2.2.1, (Y 3).2.2.2.1, (Y 3).2.2.2.2.1, (Y 3).2.2.2.2.2, e7)) (h8 : av.f (Y 3).1 (Y 3).2.1 (Y 3).2.2.1 (Y 3).2.2.2.1 (Y 3).2.2.2.2.1 (Y 3).2.2.2.2.2 11 (rd l 8) = some ((Y 4).1, (Y 4).2.1, (Y 4).2.2.1, (Y 4).2.2.2.1, (Y 4).2.2.2.2.1, (Y 4).2.2.2.2.2, e8)) (h9 : av.f (Y 4).1 (Y 4).2.1 (Y 4).2.2.1 (Y 4).2.2.2.1 (Y 4).2.2.2.2.1 (Y 4).2.2.2.2.2 12 (rd l 9) = some ((Y 5).1, (Y 5).2.1, (Y 5).2.2.1, (Y 5).2.2.2.1, (Y 5).2.2.2.2.1, (Y 5).2.2.2.2.2, e9)) (r : List Int) (hB : bp.f (X 5).1 (X 5).2.1 (X 5).2.2.1 (X 5).2.2.2.1 (X 5).2.2.2.2.1 (X 5).2.2.2.2.2 (Y 5).1 (Y 5).2.1 (Y 5).2.2.1 (Y 5).2.2.2.1 (Y 5).2.2.2.2.1 (Y 5).2.2.2.2.2 = some r) (w : World) (hr : Kd.C (Kd.int .u8) w A l.length l) (hc : l.length ≤ c) (hcmp : ((strOfNums r).toList == (strOfNums l).toList) = true) :
  Calls Try.prog 50 #[.slice A l.length c] w fun e' w' => e' = .returned (.tuple #[.agg #[.int .u8 (X 5).1, .int .u8 (X 5).2.1, .int .u8 (X 5).2.2.1, .int .u16 (X 5).2.2.2.1, .bool (X 5).2.2.2.2.1, .bool (X 5).2.2.2.2.2], .agg #[.int .u8 (Y 5).1, .int .u8 (Y 5).2.1, .int .u8 (Y 5).2.2.1, .int .u16 (Y 5).2.2.2.1, .bool (Y 5).2.2.2.2.1, .bool (Y 5).2.2.2.2.2], .int .i64 0]) ∧ Below w.heap.size w w' :=
 of_all A c l hl X Y e0 e1 e2 e3 e4 e5 e6 e7 e8 e9 hX0 hY0 h0 h1 h2 h3 h4 h5 h6 h7 h8 h9 r hB true _ (.inl ⟨rfl, rfl⟩) w hr hc hcmp
theorem of_no (A : Option Addr) (c : Nat) (l : List Int) (hl : l.length = 10) (X Y : Nat → C6) (e0 e1 e2 e3 e4 e5 e6 e7 e8 e9 : Int) (hX0 : X 0 = (0, 0, 0, 0, false, false)) (hY0 : Y 0 = (0, 0, 0, 0, false, false)) (h0 : av.f (X 0).1 (X 0).2.1 (X 0).2.2.1 (X 0).2.2.2.1 (X 0).2.2.2.2.1 (X 0).2.2.2.2.2 8 (rd l 0) = some ((X 1).1, (X 1).2.1, (X 1).2.2.1, (X 1).2.2.2.1, (X 1).2.2.2.2.1, (X 1).2.2.2.2.2, e0)) (h1 : av.f (X 1).1 (X 1).2.1 (X 1).2.2.1 (X 1).2.2.2.1 (X 1).2.2.2.2.1 (X 1).2.2.2.2.2 9 (rd l 1) = some ((X 2).1, (X 2).2.1, (X 2).2.2.1, (X 2).2.2.2.1, (X 2).2.2.2.2.1, (X 2).2.2.2.2.2, e1)) (h2 : av.f (X 2).1 (X 2).2.1 (X 2).2.2.1 (X 2).2.2.2.1 (X 2).2.2.2.2.1 (X 2).2.2.2.2.2 10 (rd l 2) = some ((X 3).1, (X 3).2.1, (X 3).2.2.1, (X 3).2.2.2.1, (X 3).2.2.2.2.1, (X 3).2.2.2.2.2, e2)) (h3 : av.f (X 3).1 (X 3).2.1 (X 3).2.2.1 (X 3).2.2.2.1 (X 3).2.2.2.2.1 (X 3).2.2.2.2.2 11 (rd l 3) = some ((X 4).1, (X 4).2.1, (X 4).2.2.1, (X 4).2.2.2.1, (X 4).2.2.2.2.1, (X 4).2.2.2.2.2, e3)) (h4 : av.f (X 4).1 (X 4).2.1 (X 4).2.2.1 (X 4).2.2.2.1 (X 4).2.2.2.2.1 (X 4).2.2.2.2.2 12 (rd l 4) = some ((X 5).1, (X 5).2.1, (X 5).2.2.1, (X 5).2.2.2.1, (X 5).2.2.2.2.1, (X 5).2.2.2.2.2, e4)) (h5 : av.f (Y 0).1 (Y 0).2.1 (Y 0).2.2.1 (Y 0).2.2.2.1 (Y 0).2.2.2.2.1 (Y 0).2.2.2.2.2 8 (rd l 5) = some ((Y 1).1, (Y 1).2.1, (Y 1).2.2.1, (Y 1).2.2.2.1, (Y 1).2.2.2.2.1, (Y 1).2.2.2.2.2, e5)) (h6 : av.f (Y 1).1 (Y 1).2.1 (Y 1).2.2.1 (Y 1).2.2.2.1 (Y 1).2.2.2.2.1 (Y 1).2.2.2.2.2 9 (rd l 6) = some ((Y 2).1, (Y 2).2.1, (Y 2).2.2.1, (Y 2).2.2.2.1, (Y 2).2.2.2.2.1, (Y 2).2.2.2.2.2, e6)) (h7 : av.f (Y 2).1 (Y 2).2.1 (Y 2).2.2.1 (Y 2).2.2.2.1 (Y 2).2.2.2.2.1 (Y 2).2.2.2.2.2 10 (rd l 7) = some ((Y 3).1, (Y 3).2.1, (Y 3).2.2.1, (Y 3).2.2.2.1, (Y 3).2.2.2.2.1, (Y 3).2.2.2.2.2, e7)) (h8 : av.f (Y 3).1 (Y 3).2.1 (Y 3).2.2.1 (Y 3).2.2.2.1 (Y 3).2.2.2.2.1 (Y 3).2.2.2.2.2 11 (rd l 8) = some ((Y 4).1, (Y 4).2.1, (Y 4).2.2.1, (Y 4).2.2.2.1, (Y 4).2.2.2.2.1, (Y 4).2.2.2.2.2, e8)) (h9 : av.f (Y 4).1 (Y 4).2.1 (Y 4).2.2.1 (Y 4).2.2.2.1 (Y 4).2.2.2.2.1 (Y 4).2.2.2.2.2 12 (rd l 9) = some ((Y 5).1, (Y 5).2.1, (Y 5).2.2.1, (Y 5).2.2.2.1, (Y 5).2.2.2.2.1, (Y 5).2.2.2.2.2, e9)) (r : List Int) (hB : bp.f (X 5).1 (X 5).2.1 (X 5).2.2.1 (X 5).2.2.2.1 (X 5).2.2.2.2.1 (X 5).2.2.2.2.2 (Y 5).1 (Y 5).2.1 (Y 5).2.2.1 (Y 5).2.2.2.1 (Y 5).2.2.2.2.1 (Y 5).2.2.2.2.2 = some r) (w : World) (hr : Kd.C (Kd.int .u8) w A l.length l) (hc : l.length ≤ c) (hcmp : ((strOfNums r).toList == (strOfNums l).toList) = false) :
  Calls Try.prog 50 #[.slice A l.length c] w fun e' w' => e' = .returned (.tuple #[.agg #[.int .u8 0, .int .u8 0, .int .u8 0, .int .u16 0, .bool false, .bool false], .agg #[.int .u8 0, .int .u8 0, .int .u8 0, .int .u16 0, .bool false, .bool false], .int .i64 6]) ∧ Below w.heap.size w w' :=
 of_all A c l hl X Y e0 e1 e2 e3 e4 e5 e6 e7 e8 e9 hX0 hY0 h0 h1 h2 h3 h4 h5 h6 h7 h8 h9 r hB false _ (.inr ⟨rfl, rfl⟩) w hr hc hcmp
theorem of_len (A : Option Addr) (c : Nat) (l : List Int) (hl : ¬ (l.length : Int) = 10) (w : World) :
  Calls Try.prog 50 #[.slice A l.length c] w fun e' w' => e' = .returned (.tuple #[.agg #[.int .u8 0, .int .u8 0, .int .u8 0, .int .u16 0, .bool false, .bool false], .agg #[.int .u8 0, .int .u8 0, .int .u8 0, .int .u16 0, .bool false, .bool false], .int .i64 5]) ∧ Below w.heap.size w w' := by
 go_enter Try.func50, Try.ntmps50
 go_wp2
 refine bodyPost_ret (v := .tuple #[.agg #[.int .u8 0, .int .u8 0, .int .u8 0, .int .u16 0, .bool false, .bool false], .agg #[.int .u8 0, .int .u8 0, .int .u8 0, .int .u16 0, .bool false, .bool false], .int .i64 5]) (by simp [results, Try.results50, go_sem]) rfl ⟨rfl, by go_grown⟩
def bQ.f (l : List Int) : Option (Int × Int × Int × Int × Bool × Bool × Int × Int × Int × Int × Bool × Bool × Int) :=
 if (l.length : Int) = 10 then ((av.f 0 0 0 0 false false 8 (rd l 0)).bind fun r0 => (av.f r0.1 r0.2.1 r0.2.2.1 r0.2.2.2.1 r0.2.2.2.2.1 r0.2.2.2.2.2.1 9 (rd l 1)).bind fun r1 => (av.f r1.1 r1.2.1 r1.2.2.1 r1.2.2.2.1 r1.2.2.2.2.1 r1.2.2.2.2.2.1 10 (rd l 2)).bind fun r2 => (av.f r2.1 r2.2.1 r2.2.2.1 r2.2.2.2.1 r2.2.2.2.2.1 r2.2.2.2.2.2.1 11 (rd l 3)).bind fun r3 => (av.f r3.1 r3.2.1 r3.2.2.1 r3.2.2.2.1 r3.2.2.2.2.1 r3.2.2.2.2.2.1 12 (rd l 4)).bind fun r4 => (av.f 0 0 0 0 false false 8 (rd l 5)).bind fun r5 => (av.f r5.1 r5.2.1 r5.2.2.1 r5.2.2.2.1 r5.2.2.2.2.1 r5.2.2.2.2.2.1 9 (rd l 6)).bind fun r6 => (av.f r6.1 r6.2.1 r6.2.2.1 r6.2.2.2.1 r6.2.2.2.2.1 r6.2.2.2.2.2.1 10 (rd l 7)).bind fun r7 => (av.f r7.1 r7.2.1 r7.2.2.1 r7.2.2.2.1 r7.2.2.2.2.1 r7.2.2.2.2.2.1 11 (rd l 8)).bind fun r8 => (av.f r8.1 r8.2.1 r8.2.2.1 r8.2.2.2.1 r8.2.2.2.2.1 r8.2.2.2.2.2.1 12 (rd l 9)).bind fun r9 => (bp.f r4.1 r4.2.1 r4.2.2.1 r4.2.2.2.1 r4.2.2.2.2.1 r4.2.2.2.2.2.1 r9.1 r9.2.1 r9.2.2.1 r9.2.2.2.1 r9.2.2.2.2.1 r9.2.2.2.2.2.1).bind fun r => if ((strOfNums r).toList == (strOfNums l).toList) = true then some (r4.1, r4.2.1, r4.2.2.1, r4.2.2.2.1, r4.2.2.2.2.1, r4.2.2.2.2.2.1, r9.1, r9.2.1, r9.2.2.1, r9.2.2.2.1, r9.2.2.2.2.1, r9.2.2.2.2.2.1, 0) else some (0, 0, 0, 0, false, false, 0, 0, 0, 0, false, false, 6))
 else some (0, 0, 0, 0, false, false, 0, 0, 0, 0, false, false, 5)
theorem bQ.calls (A0 : Option Addr) (c0 : Nat) (l0 : List Int) (r1 : Int) (r2 : Int) (r3 : Int) (r4 : Int) (r5 : Bool) (r6 : Bool) (r7 : Int) (r8 : Int) (r9 : Int) (r10 : Int) (r11 : Bool) (r12 : Bool) (r13 : Int) (w : World) (hr0 : Kd.C (Kd.int .u8) w A0 l0.length l0) (hc0 : l0.length ≤ c0) (h : bQ.f l0 = some (r1, r2, r3, r4, r5, r6, r7, r8, r9, r10, r11, r12, r13)) :
  Calls Try.prog 50 #[.slice A0 l0.length c0] w fun e w' => e = .returned (.tuple #[.agg #[.int .u8 r1, .int .u8 r2, .int .u8 r3, .int .u16 r4, .bool r5, .bool r6], .agg #[.int .u8 r7, .int .u8 r8, .int .u8 r9, .int .u16 r10, .bool r11, .bool r12], .int .i64 r13]) ∧ Below w.heap.size w w' := by
 unfold bQ.f at h
 by_cases hl : (l0.length : Int) = 10
 case neg =>
  rw [if_neg hl] at h
  cases h
  exact of_len A0 c0 l0 hl w
 rw [if_pos hl] at h
 obtain ⟨⟨x0_1, x0_2, x0_3, x0_4, x0_5, x0_6, e0⟩, h0, h⟩ := Option.bind_eq_some_iff.mp h
 obtain ⟨⟨x1_1, x1_2, x1_3, x1_4, x1_5, x1_6, e1⟩, h1, h⟩ := Option.bind_eq_some_iff.mp h
 obtain ⟨⟨x2_1, x2_2, x2_3, x2_4, x2_5, x2_6, e2⟩, h2, h⟩ := Option.bind_eq_some_iff.mp h
 obtain ⟨⟨x3_1, x3_2, x3_3, x3_4, x3_5, x3_6, e3⟩, h3, h⟩ := Option.bind_eq_some_iff.mp h
 obtain ⟨⟨x4_1, x4_2, x4_3, x4_4, x4_5, x4_6, e4⟩, h4, h⟩ := Option.bind_eq_some_iff.mp h
 obtain ⟨⟨x5_1, x5_2, x5_3, x5_4, x5_5, x5_6, e5⟩, h5, h⟩ := Option.bind_eq_some_iff.mp h
 obtain ⟨⟨x6_1, x6_2, x6_3, x6_4, x6_5, x6_6, e6⟩, h6, h⟩ := Option.bind_eq_some_iff.mp h
 obtain ⟨⟨x7_1, x7_2, x7_3, x7_4, x7_5, x7_6, e7⟩, h7, h⟩ := Option.bind_eq_some_iff.mp h
 obtain ⟨⟨x8_1, x8_2, x8_3, x8_4, x8_5, x8_6, e8⟩, h8, h⟩ := Option.bind_eq_some_iff.mp h
 obtain ⟨⟨x9_1, x9_2, x9_3, x9_4, x9_5, x9_6, e9⟩, h9, h⟩ := Option.bind_eq_some_iff.mp h
 obtain ⟨r, hB, h⟩ := Option.bind_eq_some_iff.mp h
 dsimp only at h h0 h1 h2 h3 h4 h5 h6 h7 h8 h9 hB
 let X : Nat → C6 := fun j => match j with | 0 => (0, 0, 0, 0, false, false) | 1 => (x0_1, x0_2, x0_3, x0_4, x0_5, x0_6) | 2 => (x1_1, x1_2, x1_3, x1_4, x1_5, x1_6) | 3 => (x2_1, x2_2, x2_3, x2_4, x2_5, x2_6) | 4 => (x3_1, x3_2, x3_3, x3_4, x3_5, x3_6) | _ => (x4_1, x4_2, x4_3, x4_4, x4_5, x4_6)
 let Y : Nat → C6 := fun j => match j with | 0 => (0, 0, 0, 0, false, false) | 1 => (x5_1, x5_2, x5_3, x5_4, x5_5, x5_6) | 2 => (x6_1, x6_2, x6_3, x6_4, x6_5, x6_6) | 3 => (x7_1, x7_2, x7_3, x7_4, x7_5, x7_6) | 4 => (x8_1, x8_2, x8_3, x8_4, x8_5, x8_6) | _ => (x9_1, x9_2, x9_3, x9_4, x9_5, x9_6)
 cases hcmp : ((strOfNums r).toList == (strOfNums l0).toList) with
 | true =>
  rw [hcmp, if_pos rfl] at h
  cases h
  exact of_ok A0 c0 l0 (by omega) X Y e0 e1 e2 e3 e4 e5 e6 e7 e8 e9 rfl rfl h0 h1 h2 h3 h4 h5 h6 h7 h8 h9 r hB w hr0 hc0 hcmp
 | false =>
  rw [hcmp, if_neg (by simp)] at h
  cases h
  exact of_no A0 c0 l0 (by omega) X Y e0 e1 e2 e3 e4 e5 e6 e7 e8 e9 rfl rfl h0 h1 h2 h3 h4 h5 h6 h7 h8 h9 r hB w hr0 hc0 hcmp
theorem RowL.copyRow {w : World} {g : Nat} {L : List Int} (h : RowL w g L) (A : Option Addr) (l : List Int) (hr : Kd.C (Kd.int .u8) w A l.length l) (hl : l.length = L.length) :
  ∃ w', (∀ (cap c : Nat) (ty : TypeId), (Builtin.copy_ #[22, 22] ty #[.slice (some ⟨g, 0, none⟩) L.length cap, .slice A l.length c]).run Try.prog w = .ok (.int .i64 L.length) w') ∧ RowL w' g l ∧ Upto (fun k => k = g) w w' := by
 rcases Nat.eq_zero_or_pos l.length with h0 | h0
 ·have q := fun (cap c : Nat) (ty : TypeId) => run_copy_none (P := Try.prog) w 22 22 ty 5 (some ⟨g, 0, none⟩) A L.length cap l.length c Try.underlying22 (by kernel_rfl) (by rw [h0]; simp)
  refine ⟨w, fun cap c ty => (q cap c ty).trans ?_, ?_, Upto.refl _ _⟩
  ·rw [← hl, h0]; rfl
  ·have e1 : l = [] := List.eq_nil_of_length_eq_zero h0
   have e2 : L = [] := List.eq_nil_of_length_eq_zero (by omega)
   rw [e1]; rw [e2] at h; exact h
 ·obtain ⟨ad, rfl, _⟩ := Kd.at_int hr 0 (by omega) (by omega)
  have hnews : ∀ (j : Nat) (u : Value), (l.map (Value.int .u8))[j]? = some u → w.cell? (ad.add j) = some u := by
   intro j u hj
   obtain ⟨hl', hp⟩ := List.getElem?_eq_some_iff.1 hj
   have hl' : j < l.length := by simpa using hl'
   obtain ⟨ad', e, hc⟩ := Kd.at_int hr (j : Int) (by omega) (by omega)
   cases e
   rw [Int.toNat_natCast] at hc
   rw [hc, ← hp]
   simp [rd, hl']
  have q := fun (cap c : Nat) (ty : TypeId) => run_copy_row (P := Try.prog) w 22 22 ty 5 g 0 L.length cap ad l.length c (L.map (Value.int .u8)).toArray 5 (l.map (Value.int .u8)) Try.underlying22 (by kernel_rfl) h (by simp [hl]) hnews (by simp; omega) (by intro u hu; simp at hu; obtain ⟨x, _, rfl⟩ := hu; rfl)
  have e0 : goInt ((l.map (Value.int .u8)).length : Nat) = Value.int .i64 (L.length : Nat) := by rw [List.length_map, hl]; rfl
  rw [e0] at q
  refine ⟨_, q, ?_, ?_⟩
  ·refine (setRow_heap w g _ _ 5 (0, 0) h).trans ?_
   have e : (L.map (Value.int .u8)).drop (0 + (l.map (Value.int .u8)).length) = [] := by
    apply List.drop_eq_nil_of_le; simp; omega
   rw [e]
   simp
  ·exact ⟨rfl, rfl, rfl, by simp [World.setRow], fun k _ hk => setRow_other w g k _ hk⟩
theorem load_no {w : World} {a : Ad} {s : Ct} (h : ax w a s) (A : Option Addr) (c : Nat) (l : List Int) (hr : Kd.C (Kd.int .u8) w A l.length l) (hc : l.length ≤ c) (hbt : s.hdr.bt = false) :
  Calls Try.prog 24 #[a.p, .slice A l.length c] w fun e w' => e = .returned (.int .i64 7) ∧ w' = w := by
 have HH := ab.mk h
 have HR := ab.mk hr
 have HC := ab.mk hc
 have c23 := h.c23
 rw [hbt] at c23
 clear h hr hc
 go_enter Try.func24, Try.ntmps24
 go_wp2_with fail
 refine (bI HH.out).mono ?_
 rintro e' w1 ⟨rfl, hw⟩
 replace hw := hw.symm
 subst hw
 go_wp2
 go_ret
 exact ⟨rfl, rfl⟩
theorem load_nil (v : Value) (w : World) :
  Calls Try.prog 24 #[.pointer none, v] w fun e w' => e = .returned (.int .i64 7) ∧ w' = w := by
 go_enter Try.func24, Try.ntmps24
 go_wp2
 go_ret
 exact ⟨rfl, rfl⟩
theorem load_size1 {w : World} {a : Ad} {s : Ct} (h : ax w a s) (A : Option Addr) (c : Nat) (l : List Int) (hr : Kd.C (Kd.int .u8) w A l.length l) (hc : l.length ≤ c) (hbt : s.hdr.bt = true) (hck : s.hdr.ck = false) (hn : ¬ (l.length : Int) = (s.ram.length : Int)) :
  Calls Try.prog 24 #[a.p, .slice A l.length c] w fun e w' => e = .returned (.int .i64 5) ∧ w' = w := by
 have HH := ab.mk h
 have HR := ab.mk hr
 have HC := ab.mk hc
 have c23 := h.c23
 have c24 := h.c24
 have c30 := h.c30
 rw [hbt] at c23
 rw [hck] at c24
 clear h hr hc
 go_enter Try.func24, Try.ntmps24
 go_wp2_with fail
 refine (bI HH.out).mono ?_
 rintro e' w1 ⟨rfl, hw⟩
 replace hw := hw.symm
 subst hw
 go_wp2
 go_ret
 exact ⟨rfl, rfl⟩
theorem load_ram {w : World} {a : Ad} {s : Ct} (h : ax w a s) (A : Option Addr) (c : Nat) (l : List Int) (hr : Kd.C (Kd.int .u8) w A l.length l) (hc : l.length ≤ c) (hbt : s.hdr.bt = true) (hck : s.hdr.ck = false) (hn : l.length = s.ram.length) :
  Calls Try.prog 24 #[a.p, .slice A l.length c] w fun e w' => e = .returned (.int .i64 0) ∧ ax w' a { s with ram := l } ∧ Upto a.S w w' := by
 have HH := ab.mk h
 have HR := ab.mk hr
 have HC := ab.mk hc
 obtain ⟨w2, hcopy, hrow, hup⟩ := h.row.copyRow A l hr hn
 have hcp := fun ty : TypeId => hcopy s.ram.length c ty
 have HROW := ab.mk hrow
 have HUP := ab.mk hup
 clear hcopy hrow hup
 have c23 := h.c23
 have c24 := h.c24
 have c30 := h.c30
 rw [hbt] at c23
 rw [hck] at c24
 clear h hr hc
 rw [hn] at hcp
 have HN := ab.mk hn
 have hnn : (l.length : Int) = (s.ram.length : Int) := by rw [hn]
 have hl2 : ∀ x y : Option Addr, ∀ p q : Nat, True := fun _ _ _ _ => trivial
 clear hl2
 rw [hn]
 clear hn hnn
 go_enter Try.func24, Try.ntmps24
 go_wp2_with fail
 refine (bI HH.out).mono ?_
 rintro e' w1 ⟨rfl, hw⟩
 replace hw := hw.symm
 subst hw
 go_wp2
 go_ret
 refine ⟨rfl, ⟨?_, ?_, HROW.out, HH.out.n1, HH.out.n2, HH.out.n3⟩, HUP.out.mono fun k q => Or.inr q⟩
 ·have p := HUP.out.blk HH.out.box HH.out.n1
  rw [show (Ct.cells { s with ram := l } a) = s.cells a by simp [Ct.cells, HN.out]]
  exact p
 ·exact HH.out.image.of_block (HUP.out.block _ HH.out.lti HH.out.n2)
theorem load_size2 {w : World} {a : Ad} {s : Ct} (h : ax w a s) (A : Option Addr) (c : Nat) (l : List Int) (hr : Kd.C (Kd.int .u8) w A l.length l) (hc : l.length ≤ c) (hbt : s.hdr.bt = true) (hck : s.hdr.ck = true) (hl : s.ram.length ≤ 1048576) (hn : ¬ (l.length : Int) = (s.ram.length : Int) + 10) :
  Calls Try.prog 24 #[a.p, .slice A l.length c] w fun e w' => e = .returned (.int .i64 5) ∧ w' = w := by
 have HH := ab.mk h
 have HR := ab.mk hr
 have HC := ab.mk hc
 have c23 := h.c23
 have c24 := h.c24
 have c30 := h.c30
 rw [hbt] at c23
 rw [hck] at c24
 clear h hr hc
 go_enter Try.func24, Try.ntmps24
 go_wp2_with fail
 refine (bI HH.out).mono ?_
 rintro e' w1 ⟨rfl, hw⟩
 replace hw := hw.symm
 subst hw
 go_wp2
 go_ret
 exact ⟨rfl, rfl⟩
theorem blk_at1' (w : World) (A B : Obj) : ((w.alloc A).alloc B).heap[w.heap.size + 1]? = some B := by
 have q := aC (w.alloc A) B
 simpa using q
def ownA (A : Option Addr) : List Nat := match A with | some ad => [ad.block] | none => []
theorem load_text {w : World} {a : Ad} {s : Ct} (h : ax w a s) (A : Option Addr) (c : Nat) (l : List Int) (hr : Kd.C (Kd.int .u8) w A l.length l) (hc : l.length ≤ c) (hbt : s.hdr.bt = true) (hck : s.hdr.ck = true) (hl : s.ram.length ≤ 1048576) (hn : l.length = s.ram.length + 10) (x y : Ck) (e : Int) (he : ¬ e = 0) (hx : bQ.f (l.drop s.ram.length) = some (x.s, x.m, x.h, x.d, x.ht, x.cy, y.s, y.m, y.h, y.d, y.ht, y.cy, e)) :
  Calls Try.prog 24 #[a.p, .slice A l.length c] w fun e' w' => e' = .returned (.int .i64 e) ∧ Below w.heap.size w w' := by
 have HH := ab.mk h
 have HR := ab.mk hr
 have HC := ab.mk hc
 have HL := ab.mk hl
 have HN := ab.mk hn
 have h1n : s.ram.length + 10 ≤ l.length := by omega
 have hn' : (l.length : Int) = (s.ram.length : Int) + 10 := by omega
 have hwr : wrap64 ((s.ram.length : Int) + 10) = (s.ram.length : Int) + 10 := IntWalk.wrap64_in _ (by omega)
 have hcn : ¬ c = s.ram.length := by omega
 have hcm : ¬ s.ram.length = c := by omega
 have HD := ab.mk (Kd.C_drop (m := s.ram.length) hr (by omega) hc)
 have HT := ab.mk (Kd.C_take (m := s.ram.length) hr (by omega))
 obtain ⟨ad, rfl, _⟩ := Kd.at_int hr 0 (by omega) (by omega)
 have hs0 : (0 : Int) ≤ (s.ram.length : Int) := by omega
 have hs1 : (s.ram.length : Int) ≤ (l.length : Int) := by omega
 have hs2 : (l.length : Int) ≤ (c : Int) := by omega
 have hs3 : (s.ram.length : Int) ≤ (c : Int) := by omega
 have HX := ab.mk hx
 clear hx hl hn h1n
 have c23 := h.c23
 have c24 := h.c24
 have c30 := h.c30
 rw [hbt] at c23
 rw [hck] at c24
 clear h hr hc
 go_enter Try.func24, Try.ntmps24
 go_wp2_with fail
 refine (bI HH.out).mono ?_
 rintro e1 w1 ⟨rfl, hw⟩
 replace hw := hw.symm
 subst hw
 go_wp2_with fail
 have HD2 := HD.out
 rw [if_neg hcn] at HD2
 have e1 : s.ram.length * (Kd.int .u8).sz = s.ram.length := Nat.mul_one _
 rw [Option.map_some, e1] at HD2
 have HQ : ab (Kd.C (Kd.int .u8) w (some (ad.add s.ram.length)) (l.drop s.ram.length).length (l.drop s.ram.length)) := ab.mk HD2
 clear e1
 have hlen : (l.drop s.ram.length).length = l.length - s.ram.length := by simp
 have q := bQ.calls _ (c - s.ram.length) _ _ _ _ _ _ _ _ _ _ _ _ _ _ w HQ.out (by have := HC.out; omega) HX.out
 rw [hlen] at q
 refine q.mono ?_
 clear q hlen HD2
 rintro e1 w1 ⟨rfl, hb⟩
 have HB := ab.mk hb
 clear hb
 go_wp2_with fail
 go_ret
 exact ⟨rfl, ac (ac HB.out _) _⟩
theorem load_all {w : World} {a : Ad} {s : Ct} (h : ax w a s) (A : Option Addr) (c : Nat) (l : List Int) (hr : Kd.C (Kd.int .u8) w A l.length l) (hc : l.length ≤ c) (hbt : s.hdr.bt = true) (hck : s.hdr.ck = true) (hl : s.ram.length ≤ 1048576) (hn : l.length = s.ram.length + 10) (x y : Ck) (hd : a.b ∉ ownA A) (hx : bQ.f (l.drop s.ram.length) = some (x.s, x.m, x.h, x.d, x.ht, x.cy, y.s, y.m, y.h, y.d, y.ht, y.cy, 0)) :
  Calls Try.prog 24 #[a.p, .slice A l.length c] w fun e' w' => e' = .returned (.int .i64 0) ∧ ax w' a { s with lv := x, hd := y, ram := l.take s.ram.length } ∧ Upto a.S w w' := by
 have HH := ab.mk h
 have HR := ab.mk hr
 have HC := ab.mk hc
 have HL := ab.mk hl
 have HN := ab.mk hn
 have h1n : s.ram.length + 10 ≤ l.length := by omega
 have hn' : (l.length : Int) = (s.ram.length : Int) + 10 := by omega
 have hwr : wrap64 ((s.ram.length : Int) + 10) = (s.ram.length : Int) + 10 := IntWalk.wrap64_in _ (by omega)
 have hcn : ¬ c = s.ram.length := by omega
 have hcm : ¬ s.ram.length = c := by omega
 have HD := ab.mk (Kd.C_drop (m := s.ram.length) hr (by omega) hc)
 have HT := ab.mk (Kd.C_take (m := s.ram.length) hr (by omega))
 obtain ⟨ad, rfl, _⟩ := Kd.at_int hr 0 (by omega) (by omega)
 have hs0 : (0 : Int) ≤ (s.ram.length : Int) := by omega
 have hs1 : (s.ram.length : Int) ≤ (l.length : Int) := by omega
 have hs2 : (l.length : Int) ≤ (c : Int) := by omega
 have hs3 : (s.ram.length : Int) ≤ (c : Int) := by omega
 have HX := ab.mk hx
 clear hx hl hn h1n
 have c23 := h.c23
 have c24 := h.c24
 have c30 := h.c30
 rw [hbt] at c23
 rw [hck] at c24
 clear h hr hc
 go_enter Try.func24, Try.ntmps24
 go_wp2_with fail
 refine (bI HH.out).mono ?_
 rintro e1 w1 ⟨rfl, hw⟩
 replace hw := hw.symm
 subst hw
 go_wp2_with fail
 have HD2 := HD.out
 rw [if_neg hcn] at HD2
 have e1 : s.ram.length * (Kd.int .u8).sz = s.ram.length := Nat.mul_one _
 rw [Option.map_some, e1] at HD2
 have HQ : ab (Kd.C (Kd.int .u8) w (some (ad.add s.ram.length)) (l.drop s.ram.length).length (l.drop s.ram.length)) := ab.mk HD2
 clear e1
 have hlen : (l.drop s.ram.length).length = l.length - s.ram.length := by simp
 have q := bQ.calls _ (c - s.ram.length) _ _ _ _ _ _ _ _ _ _ _ _ _ _ w HQ.out (by have := HC.out; omega) HX.out
 rw [hlen] at q
 refine q.mono ?_
 clear q hlen HD2
 rintro e1 w1 ⟨rfl, hb⟩
 have HB := ab.mk hb
 clear hb
 go_wp2_with fail
 have b0 := ah (aC w1 (.cells #[.int .u8 x.s, .int .u8 x.m, .int .u8 x.h, .int .u16 x.d, .bool x.ht, .bool x.cy] 34)) (.cells #[.int .u8 y.s, .int .u8 y.m, .int .u8 y.h, .int .u16 y.d, .bool y.ht, .bool y.cy] 34)
 have b1 := blk_at1' w1 (.cells #[.int .u8 x.s, .int .u8 x.m, .int .u8 x.h, .int .u16 x.d, .bool x.ht, .bool x.cy] 34) (.cells #[.int .u8 y.s, .int .u8 y.m, .int .u8 y.h, .int .u16 y.d, .bool y.ht, .bool y.cy] 34)
 have hB := ac (ac HB.out (.cells #[.int .u8 x.s, .int .u8 x.m, .int .u8 x.h, .int .u16 x.d, .bool x.ht, .bool x.cy] 34)) (.cells #[.int .u8 y.s, .int .u8 y.m, .int .u8 y.h, .int .u16 y.d, .bool y.ht, .bool y.cy] 34)
 have hz : ((w1.alloc (.cells #[.int .u8 x.s, .int .u8 x.m, .int .u8 x.h, .int .u16 x.d, .bool x.ht, .bool x.cy] 34)).alloc (.cells #[.int .u8 y.s, .int .u8 y.m, .int .u8 y.h, .int .u16 y.d, .bool y.ht, .bool y.cy] 34)).heap.size = w1.heap.size + 2 := by simp
 generalize (w1.alloc (.cells #[.int .u8 x.s, .int .u8 x.m, .int .u8 x.h, .int .u16 x.d, .bool x.ht, .bool x.cy] 34)).alloc (.cells #[.int .u8 y.s, .int .u8 y.m, .int .u8 y.h, .int .u16 y.d, .bool y.ht, .bool y.cy] 34) = W2 at b0 b1 hB hz ⊢
 have h2 := HH.out.below hB
 have hlt := HH.out.ltb
 have hw1 := aw HB.out
 have n0 : ¬ a.b = w1.heap.size := by omega
 have n1 : ¬ a.b = w1.heap.size + 1 := by omega
 have fz := h2.frozen
 have g6 := h2.c6
 have g7 := h2.c7
 have g8 := h2.c8
 have g9 := h2.c9
 have g10 := h2.c10
 have g11 := h2.c11
 have g12 := h2.c12
 have g13 := h2.c13
 have g14 := h2.c14
 have g15 := h2.c15
 have g16 := h2.c16
 have g17 := h2.c17
 have b00 : W2.cell? ⟨w1.heap.size, 0, none⟩ = some (.int .u8 x.s) := (aa b0 0).trans rfl
 have b01 : W2.cell? ⟨w1.heap.size, 1, none⟩ = some (.int .u8 x.m) := (aa b0 1).trans rfl
 have b02 : W2.cell? ⟨w1.heap.size, 2, none⟩ = some (.int .u8 x.h) := (aa b0 2).trans rfl
 have b03 : W2.cell? ⟨w1.heap.size, 3, none⟩ = some (.int .u16 x.d) := (aa b0 3).trans rfl
 have b04 : W2.cell? ⟨w1.heap.size, 4, none⟩ = some (.bool x.ht) := (aa b0 4).trans rfl
 have b05 : W2.cell? ⟨w1.heap.size, 5, none⟩ = some (.bool x.cy) := (aa b0 5).trans rfl
 have b10 : W2.cell? ⟨w1.heap.size + 1, 0, none⟩ = some (.int .u8 y.s) := (aa b1 0).trans rfl
 have b11 : W2.cell? ⟨w1.heap.size + 1, 1, none⟩ = some (.int .u8 y.m) := (aa b1 1).trans rfl
 have b12 : W2.cell? ⟨w1.heap.size + 1, 2, none⟩ = some (.int .u8 y.h) := (aa b1 2).trans rfl
 have b13 : W2.cell? ⟨w1.heap.size + 1, 3, none⟩ = some (.int .u16 y.d) := (aa b1 3).trans rfl
 have b14 : W2.cell? ⟨w1.heap.size + 1, 4, none⟩ = some (.bool y.ht) := (aa b1 4).trans rfl
 have b15 : W2.cell? ⟨w1.heap.size + 1, 5, none⟩ = some (.bool y.cy) := (aa b1 5).trans rfl
 have H2 := ab.mk h2
 have HB2 := ab.mk hB
 clear b0 b1 hB hz h2 hlt hw1
 go_region
 have p := ap (aJ (aJ (aJ (aJ (aJ (aJ (aJ (aJ (aJ (aJ (aJ (aJ H2.out.box 6 (.int .u8 x.s)) 7 (.int .u8 x.m)) 8 (.int .u8 x.h)) 9 (.int .u16 x.d)) 10 (.bool x.ht)) 11 (.bool x.cy)) 12 (.int .u8 y.s)) 13 (.int .u8 y.m)) 14 (.int .u8 y.h)) 15 (.int .u16 y.d)) 16 (.bool y.ht)) 17 (.bool y.cy))
 have u : Upto (fun k => k = a.b) w ((((((((((((W2.setCell ⟨a.b, 6, none⟩ (.int .u8 x.s)).setCell ⟨a.b, 7, none⟩ (.int .u8 x.m)).setCell ⟨a.b, 8, none⟩ (.int .u8 x.h)).setCell ⟨a.b, 9, none⟩ (.int .u16 x.d)).setCell ⟨a.b, 10, none⟩ (.bool x.ht)).setCell ⟨a.b, 11, none⟩ (.bool x.cy)).setCell ⟨a.b, 12, none⟩ (.int .u8 y.s)).setCell ⟨a.b, 13, none⟩ (.int .u8 y.m)).setCell ⟨a.b, 14, none⟩ (.int .u8 y.h)).setCell ⟨a.b, 15, none⟩ (.int .u16 y.d)).setCell ⟨a.b, 16, none⟩ (.bool y.ht)).setCell ⟨a.b, 17, none⟩ (.bool y.cy)).drew := by
  refine Upto.drew ?_
  with_reducible (refine Upto.setB ?_ _ _; refine Upto.setB ?_ _ _; refine Upto.setB ?_ _ _; refine Upto.setB ?_ _ _; refine Upto.setB ?_ _ _; refine Upto.setB ?_ _ _; refine Upto.setB ?_ _ _; refine Upto.setB ?_ _ _; refine Upto.setB ?_ _ _; refine Upto.setB ?_ _ _; refine Upto.setB ?_ _ _; refine Upto.setB ?_ _ _; exact Upto.of_below HB2.out)
 generalize ((((((((((((W2.setCell ⟨a.b, 6, none⟩ (.int .u8 x.s)).setCell ⟨a.b, 7, none⟩ (.int .u8 x.m)).setCell ⟨a.b, 8, none⟩ (.int .u8 x.h)).setCell ⟨a.b, 9, none⟩ (.int .u16 x.d)).setCell ⟨a.b, 10, none⟩ (.bool x.ht)).setCell ⟨a.b, 11, none⟩ (.bool x.cy)).setCell ⟨a.b, 12, none⟩ (.int .u8 y.s)).setCell ⟨a.b, 13, none⟩ (.int .u8 y.m)).setCell ⟨a.b, 14, none⟩ (.int .u8 y.h)).setCell ⟨a.b, 15, none⟩ (.int .u16 y.d)).setCell ⟨a.b, 16, none⟩ (.bool y.ht)).setCell ⟨a.b, 17, none⟩ (.bool y.cy)).drew = W3 at p u ⊢
 rw [cells_lv s a x] at p
 rw [cells_hd _ a y] at p
 have H3 := HH.out.stored (s' := { s with lv := x, hd := y }) p u rfl rfl
 have P3 := ab.mk H3.1
 have U3 := ab.mk u
 clear p u H3 fz n0 n1
 clear g6 g7 g8 g9 g10 g11 g12 g13 g14 g15 g16 g17 b00 b01 b02 b03 b04 b05 b10 b11 b12 b13 b14 b15
 have k30 := P3.out.c30
 go_wp2_with fail
 go_still_tail 7, (by kernel_rfl)
 change wpList _ _ _ _ _ W3.drew
 have P4 : ab (ax W3.drew a { s with lv := x, hd := y }) := ab.mk (P3.out.below (aj (Below.refl _ _)))
 have U4 : ab (Upto (fun k => k = a.b) w W3.drew) := ab.mk (Upto.drew U3.out)
 clear P3 U3 k30
 generalize W3.drew = W4 at P4 U4 ⊢
 have hT : Kd.C (Kd.int .u8) W4 (some ad) (l.take s.ram.length).length (l.take s.ram.length) := Kd.C_keep 0 HT.out ⟨U4.out.size, fun i hi hne _ => U4.out.block i hi hne⟩ (fun ad' e _ => by cases e; exact fun q => hd (by simp [ownA, q]))
 have htl : (l.take s.ram.length).length = s.ram.length := by have := HN.out; simp; omega
 obtain ⟨W5, hcopy, hrow, hup⟩ := P4.out.row.copyRow (some ad) (l.take s.ram.length) hT htl
 have hcp := fun ty : TypeId => hcopy s.ram.length c ty
 rw [htl] at hcp
 have hcp2 : ∀ ty : TypeId, (Builtin.copy_ #[22, 22] ty #[.slice (some ⟨a.gr, 0, none⟩) s.ram.length s.ram.length, .slice (some ad) s.ram.length c]).run Try.prog W4 = .ok (.int .i64 s.ram.length) W5 := hcp
 have HROW := ab.mk hrow
 have HUP := ab.mk hup
 have HTL := ab.mk htl
 clear hcopy hrow hup hT htl hcp hd
 go_wp2
 go_ret
 refine ⟨rfl, ⟨?_, ?_, HROW.out, HH.out.n1, HH.out.n2, HH.out.n3⟩, Upto.trans (U4.out.mono fun k q => Or.inl q) (HUP.out.mono fun k q => Or.inr q)⟩
 ·have p := HUP.out.blk P4.out.box HH.out.n1
  rw [show (Ct.cells { s with lv := x, hd := y, ram := l.take s.ram.length } a) = Ct.cells { s with lv := x, hd := y } a by simp [Ct.cells]; have := HN.out; omega]
  exact p
 ·exact P4.out.image.of_block (HUP.out.block _ P4.out.lti HH.out.n2)
theorem tick_nil (w : World) :
  Calls Try.prog 20 #[.pointer none] w fun e w' => e = .returned (.tuple #[]) ∧ Below w.heap.size w w' := by
 go_enter Try.func20, Try.ntmps20
 go_wp2
 go_returns
 exact ⟨rfl, by go_grown⟩
theorem tick_no {w : World} {a : Ad} {s : Ct} (h : ax w a s) (hck : s.hdr.ck = false) :
  Calls Try.prog 20 #[a.p] w fun e w' => e = .returned (.tuple #[]) ∧ Below w.heap.size w w' := by
 have c31 := h.c31
 have c24 := h.c24
 rw [hck] at c24
 clear h
 go_enter Try.func20, Try.ntmps20
 go_wp2
 go_returns
 exact ⟨rfl, by go_grown⟩
structure Mp.Ok (m : Mp) : Prop where
 l0 : 0 ≤ m.l
 l1 : m.l ≤ 255
 h0 : 0 ≤ m.h
 h1 : m.h ≤ 255
 r0 : 0 ≤ m.r
 r1 : m.r ≤ 255
structure Ct.Ok (s : Ct) : Prop where
 i0 : 0 < s.img.length
 i1 : s.img.length ≤ 16777216
 r1 : s.ram.length ≤ 1048576
 m : s.mp.Ok
def Ct.romN (s : Ct) (ad : Int) : Int := (s.rom ad).getD (-1)
def Ct.regN (s : Ct) (ad : Int) : Int := (s.reg ad).getD 0
def Ck.read (c : Ck) (n : Int) : Int := ((aK.f c.s c.m c.h c.d c.ht c.cy n).getD (0, 0)).1
theorem bv (a b c d : Int) (e f : Bool) (n : Int) : ∃ v x, aK.f a b c d e f n = some (v, x) := by
 unfold aK.f aV.f bA.f
 simp only [Option.bind_some]
 repeat' (first | exact ⟨_, _, rfl⟩ | split)
 all_goals (simp only [Option.bind_some]; repeat' (first | exact ⟨_, _, rfl⟩ | split))
 all_goals (simp only [Option.bind_some]; repeat' (first | exact ⟨_, _, rfl⟩ | split))
theorem rom_lo {s : Ct} (ok : s.Ok) (ad : Int) (ha : 0 ≤ ad ∧ ad ≤ 65535) (hlo : ad < 32768) : s.rom ad = some (s.romN ad) ∧ 0 ≤ s.romN ad ∧ s.romN ad < s.img.length := by
 have q := Pure.rom_is s.mp.k s.mp.o s.mp.l s.mp.h s.mp.r s.mp.md ad s.img.length ⟨ok.m.l0, ok.m.l1⟩ ⟨ok.m.h0, ok.m.h1⟩ ha
 have hi := ok.i0
 rw [if_neg (by omega), if_neg (by omega)] at q
 have e : s.rom ad = some ((bankF s.mp.k s.mp.l s.mp.h s.mp.md (ad / 16384) * 16384 + ad % 16384) % s.img.length) := q
 have e2 : s.romN ad = (bankF s.mp.k s.mp.l s.mp.h s.mp.md (ad / 16384) * 16384 + ad % 16384) % s.img.length := by rw [Ct.romN, e]; rfl
 rw [e2]
 exact ⟨e, Int.emod_nonneg _ (by omega), Int.emod_lt_of_pos _ (by omega)⟩
theorem rom_hi {s : Ct} (ok : s.Ok) (ad : Int) (ha : 0 ≤ ad ∧ ad ≤ 65535) (hlo : ¬ ad < 32768) : s.rom ad = some (-1) := by
 have q := Pure.rom_is s.mp.k s.mp.o s.mp.l s.mp.h s.mp.r s.mp.md ad s.img.length ⟨ok.m.l0, ok.m.l1⟩ ⟨ok.m.h0, ok.m.h1⟩ ha
 have hi := ok.i0
 rw [if_neg (by omega), if_pos (by omega)] at q
 exact q
theorem reg_of {s : Ct} (ok : s.Ok) (ad : Int) : s.reg ad = some (s.regN ad) := by
 have h : ∃ z, s.reg ad = some z := by
  unfold Ct.reg
  split
  ·obtain ⟨z, hz, _⟩ := Pure.reg_bd s.mp.k s.mp.o s.mp.l s.mp.h s.mp.r s.mp.md ad ⟨ok.m.r0, ok.m.r1⟩
   exact ⟨z, hz⟩
  ·exact ⟨0, rfl⟩
 obtain ⟨z, hz⟩ := h
 rw [Ct.regN, hz]; rfl
theorem at_lt {s : Ct} (ok : s.Ok) (ad : Int) (ha : 0 ≤ ad ∧ ad ≤ 65535) (h0 : s.at ad ≥ 0) : s.at ad < s.ram.length := by
 obtain ⟨x, hx, _, h2⟩ := Pure.ram_bd s.mp.k s.mp.o s.mp.l s.mp.h s.mp.r s.mp.md ad s.ram.length ⟨ok.m.h0, ok.m.h1⟩ ⟨ok.m.r0, ok.m.r1⟩ ha
 rw [at_eq] at hx
 cases hx
 exact (h2 h0).1
def Ct.read (s : Ct) (ad : Int) : Int :=
 if ad < 32768 then rd s.img (s.romN ad)
 else if s.regN ad > 0 then s.hd.read (s.regN ad)
 else if s.at ad ≥ 0 then rd s.ram (s.at ad) else 255
theorem read_at {w : World} {a : Ad} {s : Ct} (h : ax w a s) (ok : s.Ok) (ad : Int) (ha : 0 ≤ ad ∧ ad ≤ 65535) :
  Calls Try.prog 13 #[a.p, .int .u16 ad] w fun e w' => e = .returned (.int .u8 (s.read ad)) ∧ Below w.heap.size w w' := by
 unfold Ct.read
 by_cases hlo : ad < 32768
 ·rw [if_pos hlo]
  obtain ⟨h1, h2, h3⟩ := rom_lo ok ad ha hlo
  exact read_rom h ad _ h1 h2 h3
 rw [if_neg hlo]
 have hr := rom_hi ok ad ha hlo
 have hg := reg_of ok ad
 by_cases hm : s.regN ad > 0
 ·rw [if_pos hm]
  obtain ⟨v, x, hv⟩ := bv s.hd.s s.hd.m s.hd.h s.hd.d s.hd.ht s.hd.cy (s.regN ad)
  have q := read_reg h ad _ v x hr hg hm hv
  have e : s.hd.read (s.regN ad) = v := by rw [Ck.read, hv]; rfl
  rw [e]
  exact q
 rw [if_neg hm]
 by_cases h0 : s.at ad ≥ 0
 ·rw [if_pos h0]
  exact read_ram h ad _ _ hr hg hm rfl h0 (at_lt ok ad ha h0)
 ·rw [if_neg h0]
  exact read_no h ad _ _ hr hg hm rfl h0
theorem write_at {w : World} {a : Ad} {s : Ct} (h : ax w a s) (ok : s.Ok) (ad v : Int) (ha : 0 ≤ ad ∧ ad ≤ 65535) :
  Calls Try.prog 18 #[a.p, .int .u16 ad, .int .u8 v] w fun e w' => e = .returned (.tuple #[]) ∧ ax w' a (s.write ad v) ∧ Upto a.S w w' := by
 unfold Ct.write
 by_cases hlo : ad < 32768
 ·rw [if_pos hlo]
  cases hck : s.hdr.ck with
  | false =>
   rw [if_neg (fun q => by simp at q)]
   exact write_lo h ad v hlo hck
  | true =>
   by_cases hb : ad ≥ 24576
   ·rw [if_pos ⟨rfl, hb⟩]
    exact write_latch h ad v hlo hck hb
   ·rw [if_neg (fun q => hb q.2)]
    exact write_lo2 h ad v hlo hck hb
 rw [if_neg hlo]
 have hg := reg_of ok ad
 by_cases hm : (s.reg ad).getD 0 > 0
 ·rw [if_pos hm]
  exact write_reg h ad v _ hlo hg hm
 rw [if_neg hm]
 by_cases h0 : s.at ad ≥ 0
 ·rw [if_pos h0]
  exact write_ram h ad v _ hlo hg hm _ rfl h0 (at_lt ok ad ha h0)
 ·rw [if_neg h0]
  exact write_no h ad v _ hlo hg hm _ rfl h0
def Ct.tick (s : Ct) : Ct := if s.hdr.ck = true then { s with lv := s.lv.tick } else s
theorem tick_all {w : World} {a : Ad} {s : Ct} (h : ax w a s) :
  Calls Try.prog 20 #[a.p] w fun e w' => e = .returned (.tuple #[]) ∧ ax w' a s.tick ∧ Upto a.S w w' := by
 unfold Ct.tick
 cases hck : s.hdr.ck with
 | true =>
  rw [if_pos rfl]
  exact tick_at h hck
 | false =>
  rw [if_neg (by simp)]
  exact (tick_no h hck).mono fun e w' ⟨he, hb⟩ => ⟨he, h.below hb, Upto.of_below hb⟩
theorem bytes_some (c d : Ck) : ∃ l, bp.f c.s c.m c.h c.d c.ht c.cy d.s d.m d.h d.d d.ht d.cy = some l ∧ l.length = 10 := by
 unfold bp.f
 obtain ⟨v0, x0, h0⟩ := bv c.s c.m c.h c.d c.ht c.cy 8
 obtain ⟨v1, x1, h1⟩ := bv c.s c.m c.h c.d c.ht c.cy 9
 obtain ⟨v2, x2, h2⟩ := bv c.s c.m c.h c.d c.ht c.cy 10
 obtain ⟨v3, x3, h3⟩ := bv c.s c.m c.h c.d c.ht c.cy 11
 obtain ⟨v4, x4, h4⟩ := bv c.s c.m c.h c.d c.ht c.cy 12
 obtain ⟨v5, x5, h5⟩ := bv d.s d.m d.h d.d d.ht d.cy 8
 obtain ⟨v6, x6, h6⟩ := bv d.s d.m d.h d.d d.ht d.cy 9
 obtain ⟨v7, x7, h7⟩ := bv d.s d.m d.h d.d d.ht d.cy 10
 obtain ⟨v8, x8, h8⟩ := bv d.s d.m d.h d.d d.ht d.cy 11
 obtain ⟨v9, x9, h9⟩ := bv d.s d.m d.h d.d d.ht d.cy 12
 rw [h0, h1, h2, h3, h4, h5, h6, h7, h8, h9]
 exact ⟨_, rfl, rfl⟩
def Ct.bytesL (s : Ct) : List Int := s.bytes.getD []
theorem bytesL_is (s : Ct) : s.bytes = some s.bytesL ∧ s.bytesL.length = 10 := by
 obtain ⟨l, h1, h2⟩ := bytes_some s.lv s.hd
 have e : s.bytes = some l := h1
 have e2 : s.bytesL = l := by rw [Ct.bytesL, e]; rfl
 rw [e2]
 exact ⟨e, h2⟩
def Ct.saveL (s : Ct) : List Int := if s.hdr.bt = true then (if s.hdr.ck = true then s.ram ++ s.bytesL else s.ram) else []
theorem save_at {w : World} {a : Ad} {s : Ct} (h : ax w a s) (ok : s.Ok) :
  Calls Try.prog 22 #[a.p] w fun e w' => ∃ v0 : Value, e = .returned v0 ∧ Kd.R (Kd.int .u8) 5 w' w.heap.size (fun _ => True) v0 s.saveL ∧ Below w.heap.size w w' := by
 unfold Ct.saveL
 cases hbt : s.hdr.bt with
 | false =>
  rw [if_neg (by simp)]
  refine (save_no h hbt).mono ?_
  rintro e w' ⟨rfl, hb⟩
  exact ⟨_, rfl, Kd.R_of_own ⟨by simp [encs], Or.inl ⟨rfl, rfl⟩⟩ (fun _ _ => trivial), hb⟩
 | true =>
  rw [if_pos rfl]
  cases hck : s.hdr.ck with
  | false =>
   rw [if_neg (by simp)]
   exact save_ram h ok.r1 hbt hck
  | true =>
   rw [if_pos rfl]
   obtain ⟨h1, h2⟩ := bytesL_is s
   exact save_all h ok.r1 hbt hck _ h1 (by omega)
theorem clock_of_some (l : List Int) : ∃ (x y : Ck) (e : Int), bQ.f l = some (x.s, x.m, x.h, x.d, x.ht, x.cy, y.s, y.m, y.h, y.d, y.ht, y.cy, e) := by
 have h : ∃ r, bQ.f l = some r := by
  unfold bQ.f
  split
  ·obtain ⟨r0, h0⟩ := bm 0 0 0 0 false false 8 (rd l 0)
   rw [h0, Option.bind_some]
   obtain ⟨r1, h1⟩ := bm r0.1 r0.2.1 r0.2.2.1 r0.2.2.2.1 r0.2.2.2.2.1 r0.2.2.2.2.2.1 9 (rd l 1)
   rw [h1, Option.bind_some]
   obtain ⟨r2, h2⟩ := bm r1.1 r1.2.1 r1.2.2.1 r1.2.2.2.1 r1.2.2.2.2.1 r1.2.2.2.2.2.1 10 (rd l 2)
   rw [h2, Option.bind_some]
   obtain ⟨r3, h3⟩ := bm r2.1 r2.2.1 r2.2.2.1 r2.2.2.2.1 r2.2.2.2.2.1 r2.2.2.2.2.2.1 11 (rd l 3)
   rw [h3, Option.bind_some]
   obtain ⟨r4, h4⟩ := bm r3.1 r3.2.1 r3.2.2.1 r3.2.2.2.1 r3.2.2.2.2.1 r3.2.2.2.2.2.1 12 (rd l 4)
   rw [h4, Option.bind_some]
   obtain ⟨r5, h5⟩ := bm 0 0 0 0 false false 8 (rd l 5)
   rw [h5, Option.bind_some]
   obtain ⟨r6, h6⟩ := bm r5.1 r5.2.1 r5.2.2.1 r5.2.2.2.1 r5.2.2.2.2.1 r5.2.2.2.2.2.1 9 (rd l 6)
   rw [h6, Option.bind_some]
   obtain ⟨r7, h7⟩ := bm r6.1 r6.2.1 r6.2.2.1 r6.2.2.2.1 r6.2.2.2.2.1 r6.2.2.2.2.2.1 10 (rd l 7)
   rw [h7, Option.bind_some]
   obtain ⟨r8, h8⟩ := bm r7.1 r7.2.1 r7.2.2.1 r7.2.2.2.1 r7.2.2.2.2.1 r7.2.2.2.2.2.1 11 (rd l 8)
   rw [h8, Option.bind_some]
   obtain ⟨r9, h9⟩ := bm r8.1 r8.2.1 r8.2.2.1 r8.2.2.2.1 r8.2.2.2.2.1 r8.2.2.2.2.2.1 12 (rd l 9)
   rw [h9, Option.bind_some]
   obtain ⟨r, h⟩ := bytes_some ⟨r4.1, r4.2.1, r4.2.2.1, r4.2.2.2.1, r4.2.2.2.2.1, r4.2.2.2.2.2.1⟩ ⟨r9.1, r9.2.1, r9.2.2.1, r9.2.2.2.1, r9.2.2.2.2.1, r9.2.2.2.2.2.1⟩
   have h' := h.1
   dsimp only at h'
   rw [h', Option.bind_some]
   split <;> exact ⟨_, rfl⟩
  ·exact ⟨_, rfl⟩
 obtain ⟨⟨a1, a2, a3, a4, a5, a6, b1, b2, b3, b4, b5, b6, e⟩, h⟩ := h
 exact ⟨⟨a1, a2, a3, a4, a5, a6⟩, ⟨b1, b2, b3, b4, b5, b6⟩, e, h⟩
def ofX (l : List Int) : Ck := match (bQ.f l).getD (0, 0, 0, 0, false, false, 0, 0, 0, 0, false, false, 0) with | (s, m, h, d, ht, cy, _) => ⟨s, m, h, d, ht, cy⟩
def ofY (l : List Int) : Ck := match (bQ.f l).getD (0, 0, 0, 0, false, false, 0, 0, 0, 0, false, false, 0) with | (_, _, _, _, _, _, s, m, h, d, ht, cy, _) => ⟨s, m, h, d, ht, cy⟩
def ofE (l : List Int) : Int := match (bQ.f l).getD (0, 0, 0, 0, false, false, 0, 0, 0, 0, false, false, 0) with | (_, _, _, _, _, _, _, _, _, _, _, _, e) => e
theorem clock_of_is (l : List Int) : bQ.f l = some ((ofX l).s, (ofX l).m, (ofX l).h, (ofX l).d, (ofX l).ht, (ofX l).cy, (ofY l).s, (ofY l).m, (ofY l).h, (ofY l).d, (ofY l).ht, (ofY l).cy, ofE l) := by
 obtain ⟨x, y, e, h⟩ := clock_of_some l
 have e1 : ofX l = x := by rw [ofX, h]; rfl
 have e2 : ofY l = y := by rw [ofY, h]; rfl
 have e3 : ofE l = e := by rw [ofE, h]; rfl
 rw [e1, e2, e3]
 exact h
def Ct.loadE (s : Ct) (l : List Int) : Int :=
 if s.hdr.bt = true then
  if s.hdr.ck = true then (if l.length = s.ram.length + 10 then ofE (l.drop s.ram.length) else 5)
  else (if l.length = s.ram.length then 0 else 5)
 else 7
def Ct.loadS (s : Ct) (l : List Int) : Ct :=
 if s.loadE l = 0 then
  (if s.hdr.ck = true then { s with lv := ofX (l.drop s.ram.length), hd := ofY (l.drop s.ram.length), ram := l.take s.ram.length } else { s with ram := l })
 else s
theorem load_at {w : World} {a : Ad} {s : Ct} (h : ax w a s) (ok : s.Ok) (A : Option Addr) (c : Nat) (l : List Int) (hr : Kd.C (Kd.int .u8) w A l.length l) (hc : l.length ≤ c) (hd : 0 < l.length → a.b ∉ ownA A) :
  Calls Try.prog 24 #[a.p, .slice A l.length c] w fun e w' => e = .returned (.int .i64 (s.loadE l)) ∧ ax w' a (s.loadS l) ∧ Upto a.S w w' := by
 unfold Ct.loadS Ct.loadE
 cases hbt : s.hdr.bt with
 | false =>
  rw [if_neg (by simp), if_neg (by decide)]
  refine (load_no h A c l hr hc hbt).mono ?_
  rintro e w' ⟨rfl, rfl⟩
  exact ⟨rfl, h, Upto.refl _ _⟩
 | true =>
  rw [if_pos rfl]
  cases hck : s.hdr.ck with
  | false =>
   rw [if_neg (by simp)]
   by_cases hn : l.length = s.ram.length
   ·rw [if_pos hn, if_pos rfl, if_neg (by simp)]
    exact load_ram h A c l hr hc hbt hck hn
   ·rw [if_neg hn, if_neg (by decide)]
    refine (load_size1 h A c l hr hc hbt hck (by omega)).mono ?_
    rintro e w' ⟨rfl, rfl⟩
    exact ⟨rfl, h, Upto.refl _ _⟩
  | true =>
   rw [if_pos rfl]
   by_cases hn : l.length = s.ram.length + 10
   ·rw [if_pos hn]
    have hx := clock_of_is (l.drop s.ram.length)
    by_cases he : ofE (l.drop s.ram.length) = 0
    ·rw [if_pos he, if_pos rfl, he]
     rw [he] at hx
     exact load_all h A c l hr hc hbt hck ok.r1 hn _ _ (hd (by omega)) hx
    ·rw [if_neg he]
     refine (load_text h A c l hr hc hbt hck ok.r1 hn _ _ _ he hx).mono ?_
     rintro e w' ⟨rfl, hb⟩
     exact ⟨rfl, h.below hb, Upto.of_below hb⟩
   ·rw [if_neg hn, if_neg (by decide)]
    refine (load_size2 h A c l hr hc hbt hck ok.r1 (by omega)).mono ?_
    rintro e w' ⟨rfl, rfl⟩
    exact ⟨rfl, h, Upto.refl _ _⟩
end Go.Proofs.Ytmjjojbedllmgaa.Hand
