/- word.Read by hand: its loop goes over a string's letters: a byte below 128 is a letter by itself, and any other is no digit. -/
import Derived.Test.YthkoofidnaghcaaG46
import Derived.Laws.RangeAny
namespace Go.Proofs.Ythkoofidnaghcaa.Hand
open Go.RowKit Go.Proofs.Ythkoofidnaghcaa.G
open Go.Proofs.YthkoofidnaghcaaW.PrintWords Go.Proofs.YthkoofidnaghcaaW.PrintLast Go.Proofs.YthkoofidnaghcaaW.PrintMore
set_option linter.unusedVariables false
def word_Read.l : List UInt8 → Int → Option (Int × Int)
  | [], w => some (w, 0)
  | c :: cs, w => (word_digit.f 5 (c.toNat : Int)).bind fun t => if t.2 = true then word_Read.l cs (Go.bits .or .u16 (IntKind.u16.wrap (w * 16)) t.1) else some (0, 6)
def word_Read.f (a0 : ByteArray) (a1 : Int) : Option (Int × Int) :=
  if a1 < 1 then some (0, 1) else if 4 < a1 then some (0, 1) else if (a0.size : Int) = a1 then word_Read.l a0.data.toList 0 else some (0, 6)
/-- A letter from 128 on is no digit. -/
theorem digit_high (c : Int) (h : 128 ≤ c) : word_digit.f 5 c = some (0, false) := by
  have h1 : c ≥ 48 := by omega
  have h2 : ¬ c ≤ 57 := by omega
  have h3 : c ≥ 65 := by omega
  have h4 : ¬ c ≤ 70 := by omega
  have h5 : c ≥ 97 := by omega
  have h6 : ¬ c ≤ 102 := by omega
  simp [word_digit.f, word_digit.j0, word_digit.j1, h1, h2, h3, h4, h5, h6]
theorem iter_drewN (w : World) (s : ByteArray) (pos n : Nat) : (w.iter s pos).drewN n = (w.drewN n).iter s pos := rfl
theorem next_ascii (w : World) (s : ByteArray) (pos n : Nat) (ty : TypeId) (h : pos < s.size) (ha : (s[pos]'h).toNat < 128) :
    (Instr.next (.pointer (some ⟨w.heap.size, 0, none⟩)) true ty).run Try.prog ((w.iter s pos).drewN n) = .ok (.tuple #[.bool true, .int .i64 pos, .int .i32 ((s[pos]'h).toNat : Int)]) ((w.iter s (pos + 1)).drewN n) := by
  have := run_next_any (P := Try.prog) (w.drewN n) s pos ty h
  rw [decode_ascii s pos h ha] at this
  exact this
theorem next_high (w : World) (s : ByteArray) (pos n : Nat) (ty : TypeId) (h : pos < s.size) (c : Int) (hc : ((Utf8.decode s pos).1 : Int) = c) :
    (Instr.next (.pointer (some ⟨w.heap.size, 0, none⟩)) true ty).run Try.prog ((w.iter s pos).drewN n) = .ok (.tuple #[.bool true, .int .i64 pos, .int .i32 c]) ((w.iter s (pos + (Utf8.decode s pos).2)).drewN n) := by
  have := run_next_any (P := Try.prog) (w.drewN n) s pos ty h
  rw [hc] at this
  exact this
theorem next_end (w : World) (s : ByteArray) (pos n : Nat) (ty : TypeId) (h : ¬ pos < s.size) :
    (Instr.next (.pointer (some ⟨w.heap.size, 0, none⟩)) true ty).run Try.prog ((w.iter s pos).drewN n) = .ok (.tuple #[.bool false]) ((w.iter s pos).drewN n) :=
  run_next_end (P := Try.prog) (w.drewN n) s pos ty h
theorem iterPos_drewN (w : World) (s : ByteArray) (pos n : Nat) : ((w.iter s pos).drewN n).iterPos w.heap.size = pos := World.iterPos_iter (w.drewN n) s pos
theorem below_iter (w : World) (s : ByteArray) (pos n : Nat) : Below w.heap.size w ((w.iter s pos).drewN n) := pw_below_drewN (below_alloc (Below.refl _ _) _) n
set_option maxRecDepth 100000 in
set_option maxHeartbeats 1000000 in
theorem read_main (a0 : ByteArray) (a1 : Int) (w : World) (h1 : ¬ a1 < 1) (h2 : ¬ 4 < a1) (h3 : (a0.size : Int) = a1) (r1 r2 : Int) (h : word_Read.l a0.data.toList 0 = some (r1, r2)) :
    Calls Try.prog 50 #[.string a0, .int .i64 a1] w fun e w' => e = .returned (.tuple #[.int .u16 r1, .int .i64 r2]) ∧ Below w.heap.size w w' := by
  subst h3
  have H := Aside0.mk h
  clear h
  go_enter Try.func50, Try.ntmps50
  go_wp2
  go_loopw [6] (fun n w' => ∃ (pos nd : Nat) (acc : Int), w' = (w.iter a0 pos).drewN nd ∧ n = .int .u16 acc ∧ pos ≤ a0.size ∧ Aside0 (word_Read.l (a0.data.toList.drop pos) acc = some (r1, r2))) (fun _ w' => a0.size - w'.iterPos w.heap.size)
  case atStart => exact ⟨0, 0, 0, rfl, rfl, by omega, H⟩
  case round =>
    clear H
    obtain ⟨pos, nd0, acc, rfl, rfl, hle, HA⟩ := hrel
    by_cases hp : pos < a0.size
    · have hlist : a0.data.toList.drop pos = a0[pos] :: a0.data.toList.drop (pos + 1) := by
        rw [List.drop_eq_getElem_cons (by simpa using hp)]; rfl
      have hl := HA.out
      rw [hlist] at hl
      simp only [word_Read.l] at hl
      obtain ⟨t, ht, hl⟩ := Option.bind_eq_some_iff.mp hl
      clear HA
      have hm := iterPos_drewN w a0 pos nd0
      by_cases ha : (a0[pos]'hp).toNat < 128
      · have hnx := fun ty => next_ascii w a0 pos nd0 ty hp ha
        obtain ⟨d, b⟩ := t
        cases b with
        | true =>
          have HT := Aside0.mk ht
          have HL := Aside0.mk (show word_Read.l (List.drop (pos + 1) a0.data.toList) (Go.bits .or .u16 (IntKind.u16.wrap (acc * 16)) d) = some (r1, r2) from hl)
          clear ht hl hlist ha
          go_wp2_with (go_at_call 57; ((with_reducible refine (word_digit.calls 5 _ d true _ HT.out).mono ?_)); rintro e w1 ⟨rfl, ⟨nd, rfl⟩⟩)
          go_roundw
          case rel => exact ⟨pos + 1, _, _, by first | rfl | exact World.drewN_drewN .., rfl, by omega, HL⟩
          case measure => rw [iterPos_drewN, iterPos_drewN]; omega
        | false =>
          have HT := Aside0.mk ht
          obtain ⟨rfl, rfl⟩ : 0 = r1 ∧ 6 = r2 := by simpa using hl
          clear ht hl hlist ha
          go_wp2_with (go_at_call 57; ((with_reducible refine (word_digit.calls 5 _ d false _ HT.out).mono ?_)); rintro e w1 ⟨rfl, ⟨nd, rfl⟩⟩)
          go_ret2
          exact ⟨rfl, below_iter w a0 _ _⟩
      · have hr := (decode_high a0 pos hp (by omega)).1
        obtain ⟨c, hc⟩ : ∃ c : Int, ((Utf8.decode a0 pos).1 : Int) = c := ⟨_, rfl⟩
        have hnx := fun ty => next_high w a0 pos nd0 ty hp c hc
        have HT := Aside0.mk (digit_high c (by omega))
        rw [digit_high _ (by omega)] at ht
        obtain rfl := Option.some.inj ht
        obtain ⟨rfl, rfl⟩ : 0 = r1 ∧ 6 = r2 := by simpa using hl
        clear ht hl hlist ha hc hr
        go_wp2_with (go_at_call 57; ((with_reducible refine (word_digit.calls 5 _ 0 false _ HT.out).mono ?_)); rintro e w1 ⟨rfl, ⟨nd, rfl⟩⟩)
        go_ret2
        exact ⟨rfl, below_iter w a0 _ _⟩
    · have hnx := fun ty => next_end w a0 pos nd0 ty hp
      have hl := HA.out
      rw [List.drop_of_length_le (by simpa using hp)] at hl
      simp only [word_Read.l, Option.some.injEq, Prod.mk.injEq] at hl
      obtain ⟨rfl, rfl⟩ := hl
      clear HA
      go_wp2
      go_ret2
      exact ⟨rfl, below_iter w a0 _ _⟩
set_option maxRecDepth 100000 in
set_option maxHeartbeats 1000000 in
theorem word_Read.calls (a0 : ByteArray) (a1 : Int) (r1 : Int) (r2 : Int) (w : World) (h : word_Read.f a0 a1 = some (r1, r2)) :
    Calls Try.prog 50 #[.string a0, .int .i64 a1] w fun e w' => e = .returned (.tuple #[.int .u16 r1, .int .i64 r2]) ∧ Below w.heap.size w w' := by
  unfold word_Read.f at h
  by_cases h1 : a1 < 1
  · rw [if_pos h1] at h
    obtain ⟨rfl, rfl⟩ : 0 = r1 ∧ 1 = r2 := by simpa using h
    clear h
    go_enter Try.func50, Try.ntmps50
    go_wp2
    go_ret2
    exact ⟨rfl, Below.refl _ _⟩
  rw [if_neg h1] at h
  by_cases h2 : 4 < a1
  · rw [if_pos h2] at h
    obtain ⟨rfl, rfl⟩ : 0 = r1 ∧ 1 = r2 := by simpa using h
    clear h
    go_enter Try.func50, Try.ntmps50
    go_wp2
    go_ret2
    exact ⟨rfl, Below.refl _ _⟩
  rw [if_neg h2] at h
  by_cases h3 : (a0.size : Int) = a1
  · rw [if_pos h3] at h
    exact read_main a0 a1 w h1 h2 h3 r1 r2 h
  · rw [if_neg h3] at h
    obtain ⟨rfl, rfl⟩ : 0 = r1 ∧ 6 = r2 := by simpa using h
    clear h
    have h4 : ((a0.size : Int) != a1) = true := by simpa using h3
    go_enter Try.func50, Try.ntmps50
    go_wp2
    go_ret2
    exact ⟨rfl, Below.refl _ _⟩
end Go.Proofs.Ythkoofidnaghcaa.Hand
