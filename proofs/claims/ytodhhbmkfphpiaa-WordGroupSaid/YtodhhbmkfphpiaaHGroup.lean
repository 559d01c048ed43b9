/- WordGroup by hand: every call by its contract, every comparison true. -/
import Derived.Test.YtodhhbmkfphpiaaG10
import Derived.Test.YtodhhbmkfphpiaaG5
import Derived.Test.YtodhhbmkfphpiaaG6
import Derived.Test.YtodhhbmkfphpiaaG33
import Derived.Handy
namespace Go.Proofs.Ytodhhbmkfphpiaa.Hand
open Go.RowKit
open Go.Proofs.Ytodhhbmkfphpiaa.G
open Go.Proofs.YtodhhbmkfphpiaaW.PrintWords Go.Proofs.YtodhhbmkfphpiaaW.PrintLast Go.Proofs.YtodhhbmkfphpiaaW.PrintMore
set_option linter.unusedVariables false
set_option linter.unusedSimpArgs false
set_option maxRecDepth 100000 in
set_option maxHeartbeats 4000000 in
theorem group_calls (k : Nat) (v m n t1 a mv t5 d o : Int) (hup : whirligiglaw01_shown.f k = some true) (h1 : word_Turn.f v (wrap64 m) = some t1) (h2 : word_Turn.f t1 (wrap64 n) = some a) (h3 : word_Turn.f v (wrap64 (wrap64 m + wrap64 n)) = some a) (h4 : word_Turn.f t1 (wrap64 (-wrap64 m)) = some v) (h5 : word_Mirror.f v = some mv) (h6 : word_Turn.f mv (wrap64 m) = some t5) (h7 : word_Mirror.f t5 = some d) (h8 : word_Turn.f v 8 = some v) (h9: word_Mirror.f mv = some v) (h10 : word_Turn.f v (wrap64 (-wrap64 m)) = some d) (o1 : word_Ones.f k a = some o) (o2 : word_Ones.f k v = some o) (o3 : word_Ones.f k mv = some o) (w : World) :
    Calls Try.prog 11 #[.int .u8 v, .int .u8 m, .int .u8 n] w fun e w' => e = .returned (.bool true) ∧ Below w.heap.size w w' := by
  have HU := Aside0.mk hup
  have H1 := Aside0.mk h1
  have H2 := Aside0.mk h2
  have H3 := Aside0.mk h3
  have H4 := Aside0.mk h4
  have H5 := Aside0.mk h5
  have H6 := Aside0.mk h6
  have H7 := Aside0.mk h7
  have H8 := Aside0.mk h8
  have H9 := Aside0.mk h9
  have H10 := Aside0.mk h10
  have O1 := Aside0.mk o1
  have O2 := Aside0.mk o2
  have O3 := Aside0.mk o3
  clear hup h1 h2 h3 h4 h5 h6 h7 h8 h9 h10 o1 o2 o3
  go_enter Try.func11, Try.ntmps11
  go_wp2_with (first | (go_at_call 12; ((with_reducible refine (whirligiglaw01_shown.calls k true _ HU.out).mono ?_)); rintro e' w1 ⟨rfl, hb⟩; have HB := Aside0.mk hb; clear hb) | (go_at_call 18; ((with_reducible refine (word_Turn.calls v (wrap64 m) t1 _ H1.out).mono ?_)); rintro e' w2 ⟨rfl, ⟨nd, rfl⟩⟩) | (go_at_call 18; ((with_reducible refine (word_Turn.calls t1 (wrap64 n) a _ H2.out).mono ?_)); rintro e' w2 ⟨rfl, ⟨nd, rfl⟩⟩) | (go_at_call 18; ((with_reducible refine (word_Turn.calls v (wrap64 (wrap64 m + wrap64 n)) a _ H3.out).mono ?_)); rintro e' w2 ⟨rfl, ⟨nd, rfl⟩⟩) | (go_at_call 18; ((with_reducible refine (word_Turn.calls t1 (wrap64 (-wrap64 m)) v _ H4.out).mono ?_)); rintro e' w2 ⟨rfl, ⟨nd, rfl⟩⟩) | (go_at_call 18; ((with_reducible refine (word_Turn.calls mv (wrap64 m) t5 _ H6.out).mono ?_)); rintro e' w2 ⟨rfl, ⟨nd, rfl⟩⟩) | (go_at_call 18; ((with_reducible refine (word_Turn.calls v 8 v _ H8.out).mono ?_)); rintro e' w2 ⟨rfl, ⟨nd, rfl⟩⟩) | (go_at_call 18; ((with_reducible refine (word_Turn.calls v (wrap64 (-wrap64 m)) d _ H10.out).mono ?_)); rintro e' w2 ⟨rfl, ⟨nd, rfl⟩⟩) | (go_at_call 20; ((with_reducible refine (word_Mirror.calls v mv _ H5.out).mono ?_)); rintro e' w2 ⟨rfl, ⟨nd, rfl⟩⟩) | (go_at_call 20; ((with_reducible refine (word_Mirror.calls t5 d _ H7.out).mono ?_)); rintro e' w2 ⟨rfl, ⟨nd, rfl⟩⟩) | (go_at_call 20; ((with_reducible refine (word_Mirror.calls mv v _ H9.out).mono ?_)); rintro e' w2 ⟨rfl, ⟨nd, rfl⟩⟩) | (go_at_call 33; ((with_reducible refine (word_Ones.calls k a o _ O1.out).mono ?_)); rintro e' w2 ⟨rfl, ⟨nd, rfl⟩⟩) | (go_at_call 33; ((with_reducible refine (word_Ones.calls k v o _ O2.out).mono ?_)); rintro e' w2 ⟨rfl, ⟨nd, rfl⟩⟩) | (go_at_call 33; ((with_reducible refine (word_Ones.calls k mv o _ O3.out).mono ?_)); rintro e' w2 ⟨rfl, ⟨nd, rfl⟩⟩))
  go_returns
  exact ⟨rfl, pw_below_drewN HB.out _⟩
def whirligiglaw01_WordGroup.f (k : Nat) (a0 a1 a2 : Int) : Option Bool :=
  (word_Turn.f a0 (wrap64 a1)).bind fun t1 => (word_Turn.f t1 (wrap64 a2)).bind fun a => (word_Mirror.f a0).bind fun mv => (word_Turn.f mv (wrap64 a1)).bind fun t5 => (word_Mirror.f t5).bind fun d => (word_Ones.f k a).bind fun o =>
  if whirligiglaw01_shown.f k = some true ∧ word_Turn.f a0 (wrap64 (wrap64 a1 + wrap64 a2)) = some a ∧ word_Turn.f t1 (wrap64 (-wrap64 a1)) = some a0 ∧ word_Turn.f a0 8 = some a0 ∧ word_Mirror.f mv = some a0 ∧ word_Turn.f a0 (wrap64 (-wrap64 a1)) = some d ∧ word_Ones.f k a0 = some o ∧ word_Ones.f k mv = some o then some true else none
theorem whirligiglaw01_WordGroup.calls (k : Nat) (a0 a1 a2 : Int) (r : Bool) (w : World) (h : whirligiglaw01_WordGroup.f k a0 a1 a2 = some r) :
    Calls Try.prog 11 #[.int .u8 a0, .int .u8 a1, .int .u8 a2] w fun e w' => e = .returned (.bool r) ∧ Below w.heap.size w w' := by
  unfold whirligiglaw01_WordGroup.f at h
  obtain ⟨t1, h1, h⟩ := Option.bind_eq_some_iff.mp h
  obtain ⟨a, h2, h⟩ := Option.bind_eq_some_iff.mp h
  obtain ⟨mv, h5, h⟩ := Option.bind_eq_some_iff.mp h
  obtain ⟨t5, h6, h⟩ := Option.bind_eq_some_iff.mp h
  obtain ⟨d, h7, h⟩ := Option.bind_eq_some_iff.mp h
  obtain ⟨o, o1, h⟩ := Option.bind_eq_some_iff.mp h
  split at h
  · rename_i q
    obtain ⟨q0, q3, q4, q8, q9, q10, q11, q12⟩ := q
    cases h
    exact group_calls k a0 a1 a2 t1 a mv t5 d o q0 h1 h2 q3 q4 h5 h6 h7 q8 q9 q10 o1 q11 q12 w
  · exact absurd h (by simp)
end Go.Proofs.Ytodhhbmkfphpiaa.Hand
