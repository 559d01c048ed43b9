/- What the proof of the statement CartPlays stands on, part 6. (Packed by pack.py out of this session's texts.) -/
import Derived.Deep.MidRow
import Derived.StillTailTactics
import Derived.Handy
import Derived.Deep.Slices
import Derived.Deep.RegionHeld3
import Derived.Test.YtmjjojbedllmgaaQCartPlays0
import Derived.Test.YtmjjojbedllmgaaQCartPlays2
import Derived.Test.YtmjjojbedllmgaaQCartPlays3
import Derived.Test.YtmjjojbedllmgaaQCartPlays4
import Derived.Test.YtmjjojbedllmgaaQCartPlays5
set_option linter.unusedVariables false
set_option linter.unusedSimpArgs false
set_option maxRecDepth 100000
set_option maxHeartbeats 20000000
open Go.RowKit Go.Proofs.YtmjjojbedllmgaaW.PrintWords Go.Proofs.YtmjjojbedllmgaaW.PrintLast Go.Proofs.YtmjjojbedllmgaaW.PrintMore Go.Proofs.Ytmjjojbedllmgaa.G
namespace Go.Proofs.Ytmjjojbedllmgaa.Hand
def Bytes (l : List Int) : Prop := ∀ x ∈ l, 0 ≤ x ∧ x ≤ 255
theorem Bytes.bd {l : List Int} (h : Bytes l) (i : Int) : 0 ≤ rd l i ∧ rd l i ≤ 255 := by
 unfold rd
 rw [List.getD_eq_getElem?_getD]
 cases e : l[i.toNat]? with
 | none => simp
 | some x => exact h x (List.mem_of_getElem? e)
theorem ware_all : ∀ v : Fin 256, (am (v.val : Int)).1 = 0 ∨ (am (v.val : Int)).1 = 1 ∨ (am (v.val : Int)).1 = 3 ∨ (am (v.val : Int)).1 = 5 := by decide +kernel
theorem most_all10 : ∀ v : Fin 9, shl .i64 32768 (v.val : Int) ≤ 8388608 := by decide +kernel
def nilH : Hd := ⟨⟨#[]⟩, 0, 0, false, false, false, 0, 0, 0, 0⟩
def bE (l : List Int) : Hd := match aU.f l with | some (t, kd, mp, rm, bt, ck, bk, sz, sm, wh, _) => ⟨t, kd, mp, rm, bt, ck, bk, sz, sm, wh⟩ | none => nilH
def headE (l : List Int) : Int := match aU.f l with | some (_, _, _, _, _, _, _, _, _, _, e) => e | none => 1
theorem head_is {l : List Int} (hb : Bytes l) : aU.f l = some ((bE l).t, (bE l).kd, (bE l).mp, (bE l).rm, (bE l).bt, (bE l).ck, (bE l).bk, (bE l).sz, (bE l).sm, (bE l).wh, headE l) := by
 have h : ∃ r, aU.f l = some r := by
  have b1 := hb.bd 327
  have b2 := hb.bd 328
  have b3 := hb.bd 329
  unfold aU.f
  split
  ·rw [if_pos ⟨b1.1, b1.2, b2.1, b3.1⟩]
   repeat' (first | exact ⟨_, rfl⟩ | split)
  ·exact ⟨_, rfl⟩
 obtain ⟨⟨t, kd, mp, rm, bt, ck, bk, sz, sm, wh, e⟩, h⟩ := h
 unfold bE headE
 rw [h]
theorem head_ok {l : List Int} (hb : Bytes l) (he : headE l = 0) :
  336 ≤ l.length ∧ l.length ≤ 8388608 ∧ co.f (bE l).mp = some ((bE l).mp, false, 0, 0, 0, false, 0) ∧ 0 ≤ (bE l).sz ∧ (bE l).sz ≤ 131072 := by
 have h := head_is hb
 rw [he] at h
 have b1 := hb.bd 327
 have b2 := hb.bd 328
 have b3 := hb.bd 329
 generalize bE l = H at h ⊢
 unfold aU.f at h
 split at h
 case isFalse => simp at h
 rename_i h336
 rw [if_pos ⟨b1.1, b1.2, b2.1, b3.1⟩] at h
 split at h
 case isFalse => simp at h
 split at h
 case isFalse => simp at h
 rename_i hsz
 split at h
 case isFalse => simp at h
 simp only [Option.some.injEq, Prod.mk.injEq] at h
 obtain ⟨-, -, hmp, -, -, -, -, hz, -, -, -⟩ := h
 have hw : H.mp = 0 ∨ H.mp = 1 ∨ H.mp = 3 ∨ H.mp = 5 := by
  obtain ⟨v, hv⟩ : ∃ v : Fin 256, rd l 327 = (v.val : Int) := ⟨⟨(rd l 327).toNat, by omega⟩, by show rd l 327 = ((rd l 327).toNat : Int); omega⟩
  have q := ware_all v
  rw [← hv, hmp] at q
  exact q
 have hm : shl .i64 32768 (rd l 328) ≤ 8388608 := by
  obtain ⟨v, hv⟩ : ∃ v : Fin 9, rd l 328 = (v.val : Int) := ⟨⟨(rd l 328).toNat, by omega⟩, by show rd l 328 = ((rd l 328).toNat : Int); omega⟩
  rw [hv]
  exact most_all10 v
 have hs : 0 ≤ H.sz ∧ H.sz ≤ 131072 := by
  rw [← hz]
  unfold ramT sizeT
  repeat' (first | omega | split)
 refine ⟨by omega, by omega, ?_, hs.1, hs.2⟩
 unfold co.f
 rcases hw with e | e | e | e <;> (rw [e]; rfl)
def newC (l : List Int) : Ct := Ct.new (bE l) l
theorem newC_ok {l : List Int} (hb : Bytes l) (he : headE l = 0) : (newC l).Ok := by
 obtain ⟨h1, h2, h3, h4, h5⟩ := head_ok hb he
 refine ⟨?_, ?_, ?_, ⟨?_, ?_, ?_, ?_, ?_, ?_⟩⟩ <;> simp only [newC, Ct.new, List.length_replicate] <;> omega
theorem new_at (A : Option Addr) (c : Nat) (l : List Int) (w : World) (hr : Kd.C (Kd.int .u8) w A l.length l) (hc : l.length ≤ c) (hb : Bytes l) (he : headE l = 0) :
  Calls Try.prog 10 #[.slice A l.length c] w fun e' w' => ∃ a : Ad, e' = .returned (.tuple #[.pointer (some ⟨a.b, 0, none⟩), .int .i64 0]) ∧ ax w' a (newC l) ∧ w.heap.size ≤ a.b ∧ w.heap.size ≤ a.gi ∧ w.heap.size ≤ a.gr ∧ Below w.heap.size w w' := by
 have hp := head_is hb
 rw [he] at hp
 obtain ⟨h1, h2, h3, h4, h5⟩ := head_ok hb he
 exact new_ok A c l (bE l) w hr hc hp h3 h4 (by omega) (by omega) (by omega)
theorem new_no (A : Option Addr) (c : Nat) (l : List Int) (w : World) (hr : Kd.C (Kd.int .u8) w A l.length l) (hc : l.length ≤ c) (hb : Bytes l) (he : ¬ headE l = 0) :
  Calls Try.prog 10 #[.slice A l.length c] w fun e' w' => e' = .returned (.tuple #[.pointer none, .int .i64 (headE l)]) ∧ Below w.heap.size w w' :=
 new_bad A c l _ _ _ _ _ _ _ _ _ _ _ w hr hc (head_is hb) he
theorem bits10 : ∀ v : Fin 256, (0 ≤ Go.bits .and .u8 (v.val : Int) 31 ∧ Go.bits .and .u8 (v.val : Int) 31 ≤ 255) ∧ (0 ≤ Go.bits .and .u8 (v.val : Int) 3 ∧ Go.bits .and .u8 (v.val : Int) 3 ≤ 255) ∧ (0 ≤ Go.bits .and .u8 (v.val : Int) 127 ∧ Go.bits .and .u8 (v.val : Int) 127 ≤ 255) ∧ (0 ≤ Go.bits .and .u8 (v.val : Int) 15 ∧ Go.bits .and .u8 (v.val : Int) 15 ≤ 255) ∧ (0 ≤ Go.bits .and .u8 (v.val : Int) 1 ∧ Go.bits .and .u8 (v.val : Int) 1 ≤ 255) := by decide +kernel
theorem writeF_bd (k : Int) (o : Bool) (l h r : Int) (md : Bool) (ad v : Int) (hl : 0 ≤ l ∧ l ≤ 255) (hh : 0 ≤ h ∧ h ≤ 255) (hr : 0 ≤ r ∧ r ≤ 255) (hv : 0 ≤ v ∧ v ≤ 255) :
  (0 ≤ (writeF k o l h r md ad v).2.2.1 ∧ (writeF k o l h r md ad v).2.2.1 ≤ 255) ∧ (0 ≤ (writeF k o l h r md ad v).2.2.2.1 ∧ (writeF k o l h r md ad v).2.2.2.1 ≤ 255) ∧ (0 ≤ (writeF k o l h r md ad v).2.2.2.2.1 ∧ (writeF k o l h r md ad v).2.2.2.2.1 ≤ 255) := by
 obtain ⟨u, rfl⟩ : ∃ u : Fin 256, v = (u.val : Int) := ⟨⟨v.toNat, by omega⟩, by show v = (v.toNat : Int); omega⟩
 obtain ⟨b1, b2, b3, b4, b5⟩ := bits10 u
 unfold writeF
 repeat' split
 all_goals (refine ⟨?_, ?_, ?_⟩ <;> first | exact hl | exact hh | exact hr | exact b1 | exact b2 | exact b3 | exact b4 | exact b5 | exact hv)
theorem Mp.Ok.write {m : Mp} (h : m.Ok) (ad v : Int) (hv : 0 ≤ v ∧ v ≤ 255) : (m.write ad v).Ok := by
 obtain ⟨⟨a1, a2⟩, ⟨b1, b2⟩, ⟨c1, c2⟩⟩ := writeF_bd m.k m.o m.l m.h m.r m.md ad v ⟨h.l0, h.l1⟩ ⟨h.h0, h.h1⟩ ⟨h.r0, h.r1⟩ hv
 exact ⟨a1, a2, b1, b2, c1, c2⟩
theorem latch_keeps (s : Ct) (v : Int) : (s.latch v).img = s.img ∧ (s.latch v).ram = s.ram ∧ (s.latch v).mp = s.mp ∧ (s.latch v).hdr = s.hdr := by
 unfold Ct.latch
 split <;> exact ⟨rfl, rfl, rfl, rfl⟩
theorem write_keeps (s : Ct) (ad v : Int) : (s.write ad v).img = s.img ∧ (s.write ad v).ram.length = s.ram.length ∧ (s.write ad v).hdr = s.hdr ∧ ((s.write ad v).mp = s.mp ∨ (s.write ad v).mp = s.mp.write ad v) := by
 unfold Ct.write
 split
 ·split
  ·obtain ⟨h1, h2, h3, h4⟩ := latch_keeps { s with mp := s.mp.write ad v } v
   exact ⟨h1, by rw [h2], h4, Or.inr h3⟩
  ·exact ⟨rfl, rfl, rfl, Or.inr rfl⟩
 ·split
  ·exact ⟨rfl, rfl, rfl, Or.inl rfl⟩
  ·split
   ·exact ⟨rfl, by simp, rfl, Or.inl rfl⟩
   ·exact ⟨rfl, rfl, rfl, Or.inl rfl⟩
theorem Ct.Ok.write {s : Ct} (h : s.Ok) (ad v : Int) (hv : 0 ≤ v ∧ v ≤ 255) : (s.write ad v).Ok := by
 obtain ⟨h1, h2, h3, h4⟩ := write_keeps s ad v
 refine ⟨by rw [h1]; exact h.i0, by rw [h1]; exact h.i1, by rw [h2]; exact h.r1, ?_⟩
 rcases h4 with e | e <;> rw [e]
 ·exact h.m
 ·exact h.m.write ad v hv
theorem tick_keeps (s : Ct) : s.tick.img = s.img ∧ s.tick.ram = s.ram ∧ s.tick.hdr = s.hdr ∧ s.tick.mp = s.mp ∧ s.tick.hd = s.hd := by
 unfold Ct.tick
 split <;> exact ⟨rfl, rfl, rfl, rfl, rfl⟩
theorem Ct.Ok.tick {s : Ct} (h : s.Ok) : s.tick.Ok := by
 obtain ⟨h1, h2, h3, h4, _⟩ := tick_keeps s
 exact ⟨by rw [h1]; exact h.i0, by rw [h1]; exact h.i1, by rw [h2]; exact h.r1, by rw [h4]; exact h.m⟩
theorem load_keeps (s : Ct) (l : List Int) : (s.loadS l).img = s.img ∧ (s.loadS l).ram.length = s.ram.length ∧ (s.loadS l).hdr = s.hdr ∧ (s.loadS l).mp = s.mp := by
 unfold Ct.loadS Ct.loadE
 cases hbt : s.hdr.bt with
 | false => simp
 | true =>
  cases hck : s.hdr.ck with
  | false =>
   by_cases hn : l.length = s.ram.length <;> simp [hn]
  | true =>
   by_cases hn : l.length = s.ram.length + 10
   ·by_cases he : ofE (l.drop s.ram.length) = 0 <;> simp [hn, he]
   ·simp [hn]
theorem Ct.Ok.load {s : Ct} (h : s.Ok) (l : List Int) : (s.loadS l).Ok := by
 obtain ⟨h1, h2, h3, h4⟩ := load_keeps s l
 exact ⟨by rw [h1]; exact h.i0, by rw [h1]; exact h.i1, by rw [h2]; exact h.r1, by rw [h4]; exact h.m⟩
theorem ax.other {w w' : World} {a d : Ad} {s : Ct} (h : ax w d s) (u : Upto a.S w w') (B : Nat) (h1 : a.b < B) (h2 : a.gr < B) (h3 : B ≤ d.b) (h4 : B ≤ d.gi) (h5 : B ≤ d.gr) : ax w' d s :=
 h.kept u (by rintro (q | q) <;> omega) (by rintro (q | q) <;> omega) (by rintro (q | q) <;> omega)
theorem ax.first {w w' : World} {a d : Ad} {s : Ct} (h : ax w a s) (u : Upto d.S w w') (B : Nat) (h1 : a.b < B) (h2 : a.gi < B) (h3 : a.gr < B) (h4 : B ≤ d.b) (h5 : B ≤ d.gr) : ax w' a s :=
 h.kept u (by rintro (q | q) <;> omega) (by rintro (q | q) <;> omega) (by rintro (q | q) <;> omega)
theorem cx {B : Nat} {w0 w w' : World} {a : Ad} (hb : Below B w0 w) (hB : B ≤ w0.heap.size) (u : Upto a.S w w') (h1 : B ≤ a.b) (h2 : B ≤ a.gr) : Below B w0 w' :=
 u.below hb (Nat.le_trans hB hb.size) (by rintro k (q | q) <;> omega)
structure Act1 where
 k : Int
 ad : Int
 v : Int
 b : List Int
 A : Option Addr
 c : Nat
structure ActAt (w : World) (a : Addr) (j : Nat) (x : Act1) : Prop where
 c0 : w.cell? (a.add (j * 4)) = some (.int .i64 x.k)
 c1 : w.cell? ⟨(a.add (j * 4)).block, (a.add (j * 4)).off + 1, none⟩ = some (.int .u16 x.ad)
 c2 : w.cell? ⟨(a.add (j * 4)).block, (a.add (j * 4)).off + 2, none⟩ = some (.int .u8 x.v)
 c3 : w.cell? ⟨(a.add (j * 4)).block, (a.add (j * 4)).off + 3, none⟩ = some (.slice x.A x.b.length x.c)
 hb : Kd.C (Kd.int .u8) w x.A x.b.length x.b
 hc : x.b.length ≤ x.c
structure Act1.Ok (x : Act1) : Prop where
 a0 : 0 ≤ x.ad
 a1 : x.ad ≤ 65535
 v0 : 0 ≤ x.v
 v1 : x.v ≤ 255
 b : Bytes x.b
def ActsAt (w : World) (A : Option Addr) (l : List Act1) : Prop := l.length ≤ 9223372036854775807 ∧ ∀ j x, l[j]? = some x → x.Ok ∧ ∃ a, A = some a ∧ ActAt w a j x
theorem ActAt.below {w w' : World} {a : Addr} {j : Nat} {x : Act1} (h : ActAt w a j x) (hb : Below w.heap.size w w') : ActAt w' a j x :=
 ⟨cA hb h.c0, cA hb h.c1, cA hb h.c2, cA hb h.c3, Kd.C_below h.hb hb, h.hc⟩
theorem bytes_old {w : World} {A : Option Addr} {l : List Int} (h : Kd.C (Kd.int .u8) w A l.length l) (hl : 0 < l.length) (b : Nat) (hb : w.heap.size ≤ b) : b ∉ ownA A := by
 obtain ⟨ad, rfl, hc⟩ := Kd.at_int h 0 (by omega) (by omega)
 have q := World.block_lt_of_cell? w _ hc
 have e : (ad.add ((0 : Int).toNat)).block = ad.block := by
  unfold Addr.add
  split <;> rfl
 rw [e] at q
 simp only [ownA, List.mem_singleton]
 omega
end Go.Proofs.Ytmjjojbedllmgaa.Hand
section
namespace Go.Proofs.Ytmjjojbedllmgaa.ActsRow
open Go.Proofs.Ytmjjojbedllmgaa.Hand
theorem open_wrote {H : Type} {enc : TypeId × Value → H} {w : World} {base : Nat} {spare : Nat → Bool} {held : Bool} {v : Value} {d : DataW H} {p : List MemPlace}
  (hv : ∃ a len cap, v = .slice a len cap) (h : DataW.Trod enc Try.prog w base spare held 44 v d p) :
  ∃ (A : Option Addr) (l : List Act1) (c : Nat), v = .slice A l.length c ∧ ActsAt w A l ∧ l.length ≤ c ∧ l.length ≤ 9223372036854775807 ∧ True := by
 obtain ⟨a, len, cap, rfl⟩ := hv
 obtain ⟨fuel, hf⟩ := h
 have hf' : DataW.trod enc Try.prog w base spare held fuel 44 [.slice a len cap] = some (d, p) := hf
 rcases Go.Deep.open_slice Try.underlying44 hf' with ⟨e, _⟩ | ⟨a', len', cap', m, n, D, Pl, e, hb, hl, hm, hmm, _, hx⟩
 ·simp only [List.cons.injEq, Value.slice.injEq, and_true] at e
  obtain ⟨rfl, rfl, rfl⟩ := e
  exact ⟨none, [], 0, rfl, ⟨by simp, fun j x hx => absurd hx (by simp)⟩, by simp, by simp, trivial⟩
 ·simp only [List.cons.injEq, Value.slice.injEq, and_true] at e
  obtain ⟨rfl, rfl, rfl⟩ := e
  have hlm : len ≤ m := by rw [hmm]; split <;> omega
  have hmax : len ≤ 9223372036854775807 := by
   have : maxLen = 9223372036854775807 := rfl
   omega
  have ce : Try.prog.cellsOf 51 = 4 := by kernel_rfl
  have each : ∀ i, i < len → ∃ x : Act1, x.Ok ∧ ActAt w a' i x := by
   intro i hi
   obtain ⟨cs', h1, h2⟩ := hx i (by omega)
   rw [ce] at h1
   obtain ⟨_, hlen, hcell⟩ := World.cells?_some h1
   obtain ⟨xs, k, hk, hxy, _, hxl, hf⟩ := DataW.trod_struct Try.underlying51 h2
   match xs, hxl, cs', hlen with
   | [y0, y1, y2, y3], _, [v0, v1, v2, v3], _ =>
    have g0 := hf 0 _ rfl
    have g1 := hf 1 _ rfl
    have g2 := hf 2 _ rfl
    have g3 := hf 3 _ rfl
    have s0 : Try.prog.cellsOf 3 = 1 := by kernel_rfl
    have s1 : Try.prog.cellsOf 23 = 1 := by kernel_rfl
    have s2 : Try.prog.cellsOf 5 = 1 := by kernel_rfl
    have s3 : Try.prog.cellsOf 22 = 1 := by kernel_rfl
    simp [s0, s1, s2, s3] at g0 g1 g2 g3
    have e0 := hcell 0 (by omega)
    have e1 := hcell 1 (by omega)
    have e2 := hcell 2 (by omega)
    have e3 := hcell 3 (by omega)
    rw [add_add] at e0 e1 e2 e3
    obtain ⟨n0, rfl, w0⟩ := Frame.cell_int (k := .i64) (by kernel_rfl) ⟨_, _, g0⟩
    obtain ⟨n1, rfl, w1⟩ := Frame.cell_int (k := .u16) (by kernel_rfl) ⟨_, _, g1⟩
    obtain ⟨n2, rfl, w2⟩ := Frame.cell_int (k := .u8) (by kernel_rfl) ⟨_, _, g2⟩
    obtain ⟨A, b, c, rfl, hC, hc, hbl, hby⟩ := Wish.cell_bytes ⟨_, _, g3⟩
    have b1 : 0 ≤ n1 ∧ n1 ≤ 65535 := by
     have hmin : IntKind.u16.min = 0 := rfl
     have hmax : IntKind.u16.max = 65535 := rfl
     simp only [Lit.wf, Bool.and_eq_true, decide_eq_true_eq] at w1
     omega
    have b2 : 0 ≤ n2 ∧ n2 ≤ 255 := by
     have hmin : IntKind.u8.min = 0 := rfl
     have hmax : IntKind.u8.max = 255 := rfl
     simp only [Lit.wf, Bool.and_eq_true, decide_eq_true_eq] at w2
     omega
    refine ⟨⟨n0, n1, n2, b, A, c⟩, ⟨b1.1, b1.2, b2.1, b2.2, hby⟩, ⟨by simpa using e0, ?_, ?_, ?_, hC, hc⟩⟩
    ·rw [← add_field _ _ 1 (by omega)]; simpa using e1
    ·rw [← add_field _ _ 2 (by omega)]; simpa using e2
    ·rw [← add_field _ _ 3 (by omega)]; simpa using e3
  obtain ⟨f, hf2⟩ : ∃ f : Nat → Act1, ∀ i, i < len → (f i).Ok ∧ ActAt w a' i (f i) := by
   refine ⟨fun i => if h : i < len then Classical.choose (each i h) else ⟨0, 0, 0, [], none, 0⟩, fun i hi => ?_⟩
   simp only [hi, dif_pos]
   exact Classical.choose_spec (each i hi)
  refine ⟨some a', (List.range len).map f, cap, by simp, ⟨by simpa using hmax, fun j x hx => ?_⟩, by simpa using hl, by simpa using hmax, trivial⟩
  have hj : j < len := by
   have := (List.getElem?_eq_some_iff.1 hx).1
   simpa using this
  have ex : x = f j := by
   rw [List.getElem?_map, List.getElem?_range hj] at hx
   simpa using hx.symm
  subst ex
  exact ⟨(hf2 j hj).1, a', rfl, (hf2 j hj).2⟩
end Go.Proofs.Ytmjjojbedllmgaa.ActsRow
end
namespace Go.Proofs.Ytmjjojbedllmgaa.Hand
theorem blk_there {w : World} {g : Nat} {e : TypeId} {cs : Array Value} (h : w.heap[g]? = some (.cells cs e (0, 0))) (o n : Nat) (hn : o + n ≤ cs.size) : w.there g o n := fun j hj =>
 ⟨by rw [aa h (o + j)]; simp; omega, ae h _⟩
theorem blk_setAll {w : World} {g : Nat} {e : TypeId} {cs : Array Value} (h : w.heap[g]? = some (.cells cs e (0, 0))) (vs : List Value) (hl : vs.length = cs.size) : (w.setCells g 0 vs).heap[g]? = some (.cells vs.toArray e (0, 0)) := by
 obtain ⟨cur, h1, h2, h3⟩ := setCells_row vs 0 w _ h (by omega)
 have q : cur = vs.toArray := by
  apply Array.toList_inj.mp
  rw [h3]
  simp [hl]
 rw [h1, q]
theorem blk_setFar {w : World} {g k : Nat} {o : Obj} (h : w.heap[k]? = some o) (hk : k ≠ g) (i : Nat) (vs : List Value) : (w.setCells g i vs).heap[k]? = some o := (cv vs i k hk).trans h
theorem ay {B : Nat} {w0 w : World} (h : Below B w0 w) (g o : Nat) (hg : B ≤ g) (vs : List Value) : Below B w0 (w.setCells g o vs) := by
 obtain ⟨h1, h2, h3, h4⟩ := setCells_same g vs o w
 exact ⟨h1.trans h.os, h2.trans h.tape, h3.trans h.output, by rw [h4]; exact h.size, fun k hk => (cv vs o k (by omega)).trans (h.block k hk)⟩
structure Rt where
 s : Ct
 Ai : Option Addr
 ci : Nat
 Ar : Option Addr
 cr : Nat
abbrev Rt.cells (r : Rt) : List Value := [.bool true, .string r.s.hdr.t, .int .u8 r.s.hdr.kd, .int .i64 r.s.hdr.mp, .bool r.s.hdr.rm, .bool r.s.hdr.bt, .bool r.s.hdr.ck, .int .i64 r.s.hdr.bk, .int .i64 r.s.hdr.sz, .int .u8 r.s.hdr.sm, .int .u16 r.s.hdr.wh, .slice r.Ai r.s.img.length r.ci, .slice r.Ar r.s.ram.length r.cr, .int .i64 r.s.mp.k, .bool r.s.mp.o, .int .u8 r.s.mp.l, .int .u8 r.s.mp.h, .int .u8 r.s.mp.r, .bool r.s.mp.md, .int .u8 r.s.lv.s, .int .u8 r.s.lv.m, .int .u8 r.s.lv.h, .int .u16 r.s.lv.d, .bool r.s.lv.ht, .bool r.s.lv.cy, .int .u8 r.s.hd.s, .int .u8 r.s.hd.m, .int .u8 r.s.hd.h, .int .u16 r.s.hd.d, .bool r.s.hd.ht, .bool r.s.hd.cy, .int .u8 r.s.last]
abbrev Rt.v (r : Rt) : Value := .agg #[.bool true, .string r.s.hdr.t, .int .u8 r.s.hdr.kd, .int .i64 r.s.hdr.mp, .bool r.s.hdr.rm, .bool r.s.hdr.bt, .bool r.s.hdr.ck, .int .i64 r.s.hdr.bk, .int .i64 r.s.hdr.sz, .int .u8 r.s.hdr.sm, .int .u16 r.s.hdr.wh, .slice r.Ai r.s.img.length r.ci, .slice r.Ar r.s.ram.length r.cr, .int .i64 r.s.mp.k, .bool r.s.mp.o, .int .u8 r.s.mp.l, .int .u8 r.s.mp.h, .int .u8 r.s.mp.r, .bool r.s.mp.md, .int .u8 r.s.lv.s, .int .u8 r.s.lv.m, .int .u8 r.s.lv.h, .int .u16 r.s.lv.d, .bool r.s.lv.ht, .bool r.s.lv.cy, .int .u8 r.s.hd.s, .int .u8 r.s.hd.m, .int .u8 r.s.hd.h, .int .u16 r.s.hd.d, .bool r.s.hd.ht, .bool r.s.hd.cy, .int .u8 r.s.last]
def ao (w : World) (b : Nat) (r : Rt) : Prop := w.heap[b]? = some (.cells r.cells.toArray 36 (0, 0))
theorem ao.c0 {w : World} {b : Nat} {r : Rt} (h : ao w b r) : w.cell? ⟨b, 0, none⟩ = some (.bool true) := (aa h 0).trans rfl
theorem ao.c5 {w : World} {b : Nat} {r : Rt} (h : ao w b r) : w.cell? ⟨b, 5, none⟩ = some (.bool r.s.hdr.bt) := (aa h 5).trans rfl
theorem ao.c6 {w : World} {b : Nat} {r : Rt} (h : ao w b r) : w.cell? ⟨b, 6, none⟩ = some (.bool r.s.hdr.ck) := (aa h 6).trans rfl
theorem ao.c11 {w : World} {b : Nat} {r : Rt} (h : ao w b r) : w.cell? ⟨b, 11, none⟩ = some (.slice r.Ai r.s.img.length r.ci) := (aa h 11).trans rfl
theorem ao.c12 {w : World} {b : Nat} {r : Rt} (h : ao w b r) : w.cell? ⟨b, 12, none⟩ = some (.slice r.Ar r.s.ram.length r.cr) := (aa h 12).trans rfl
theorem ao.c13 {w : World} {b : Nat} {r : Rt} (h : ao w b r) : w.cell? ⟨b, 13, none⟩ = some (.int .i64 r.s.mp.k) := (aa h 13).trans rfl
theorem ao.c14 {w : World} {b : Nat} {r : Rt} (h : ao w b r) : w.cell? ⟨b, 14, none⟩ = some (.bool r.s.mp.o) := (aa h 14).trans rfl
theorem ao.c15 {w : World} {b : Nat} {r : Rt} (h : ao w b r) : w.cell? ⟨b, 15, none⟩ = some (.int .u8 r.s.mp.l) := (aa h 15).trans rfl
theorem ao.c16 {w : World} {b : Nat} {r : Rt} (h : ao w b r) : w.cell? ⟨b, 16, none⟩ = some (.int .u8 r.s.mp.h) := (aa h 16).trans rfl
theorem ao.c17 {w : World} {b : Nat} {r : Rt} (h : ao w b r) : w.cell? ⟨b, 17, none⟩ = some (.int .u8 r.s.mp.r) := (aa h 17).trans rfl
theorem ao.c18 {w : World} {b : Nat} {r : Rt} (h : ao w b r) : w.cell? ⟨b, 18, none⟩ = some (.bool r.s.mp.md) := (aa h 18).trans rfl
theorem ao.c19 {w : World} {b : Nat} {r : Rt} (h : ao w b r) : w.cell? ⟨b, 19, none⟩ = some (.int .u8 r.s.lv.s) := (aa h 19).trans rfl
theorem ao.c20 {w : World} {b : Nat} {r : Rt} (h : ao w b r) : w.cell? ⟨b, 20, none⟩ = some (.int .u8 r.s.lv.m) := (aa h 20).trans rfl
theorem ao.c21 {w : World} {b : Nat} {r : Rt} (h : ao w b r) : w.cell? ⟨b, 21, none⟩ = some (.int .u8 r.s.lv.h) := (aa h 21).trans rfl
theorem ao.c22 {w : World} {b : Nat} {r : Rt} (h : ao w b r) : w.cell? ⟨b, 22, none⟩ = some (.int .u16 r.s.lv.d) := (aa h 22).trans rfl
theorem ao.c23 {w : World} {b : Nat} {r : Rt} (h : ao w b r) : w.cell? ⟨b, 23, none⟩ = some (.bool r.s.lv.ht) := (aa h 23).trans rfl
theorem ao.c24 {w : World} {b : Nat} {r : Rt} (h : ao w b r) : w.cell? ⟨b, 24, none⟩ = some (.bool r.s.lv.cy) := (aa h 24).trans rfl
theorem ao.c25 {w : World} {b : Nat} {r : Rt} (h : ao w b r) : w.cell? ⟨b, 25, none⟩ = some (.int .u8 r.s.hd.s) := (aa h 25).trans rfl
theorem ao.c26 {w : World} {b : Nat} {r : Rt} (h : ao w b r) : w.cell? ⟨b, 26, none⟩ = some (.int .u8 r.s.hd.m) := (aa h 26).trans rfl
theorem ao.c27 {w : World} {b : Nat} {r : Rt} (h : ao w b r) : w.cell? ⟨b, 27, none⟩ = some (.int .u8 r.s.hd.h) := (aa h 27).trans rfl
theorem ao.c28 {w : World} {b : Nat} {r : Rt} (h : ao w b r) : w.cell? ⟨b, 28, none⟩ = some (.int .u16 r.s.hd.d) := (aa h 28).trans rfl
theorem ao.c29 {w : World} {b : Nat} {r : Rt} (h : ao w b r) : w.cell? ⟨b, 29, none⟩ = some (.bool r.s.hd.ht) := (aa h 29).trans rfl
theorem ao.c30 {w : World} {b : Nat} {r : Rt} (h : ao w b r) : w.cell? ⟨b, 30, none⟩ = some (.bool r.s.hd.cy) := (aa h 30).trans rfl
theorem ao.c31 {w : World} {b : Nat} {r : Rt} (h : ao w b r) : w.cell? ⟨b, 31, none⟩ = some (.int .u8 r.s.last) := (aa h 31).trans rfl
theorem ao.frozen {w : World} {b : Nat} {r : Rt} (h : ao w b r) (i : Nat) : w.frozen? ⟨b, i, none⟩ = false := ae h i
theorem ao.below {w w' : World} {b : Nat} {r : Rt} (h : ao w b r) (hb : Below w.heap.size w w') : ao w' b r := af h hb
theorem ao.new (w : World) (r : Rt) : ao (w.alloc (.cells r.cells.toArray 36)) w.heap.size r := aC w _
theorem ao.range {w : World} {b : Nat} {r : Rt} (h : ao w b r) : w.rangeAt b 0 r.cells := fun j x hx => by
 rw [aa h (0 + j), Nat.zero_add]
 simpa using hx
theorem Rt.one (r : Rt) : r.cells.toArray.all (·.oneCell') = true := by simp [Value.oneCell']
def bo (w : World) (b : Nat) : Prop := ∃ cs : Array Value, cs.size = 32 ∧ w.heap[b]? = some (.cells cs 36 (0, 0))
theorem bo.new (w : World) (cs : List Value) (h : cs.length = 32) : bo (w.alloc (.cells cs.toArray 36)) w.heap.size := ⟨_, by simpa using h, aC w _⟩
theorem bo.below {w w' : World} {b : Nat} (h : bo w b) (hb : Below w.heap.size w w') : bo w' b := by
 obtain ⟨cs, h1, h2⟩ := h
 exact ⟨cs, h1, af h2 hb⟩
theorem bo.far {w : World} {b g : Nat} (h : bo w b) (hg : b ≠ g) (i : Nat) (vs : List Value) : bo (w.setCells g i vs) b := by
 obtain ⟨cs, h1, h2⟩ := h
 exact ⟨cs, h1, blk_setFar h2 hg i vs⟩
theorem bo.far1 {w : World} {b g : Nat} (h : bo w b) (hg : b ≠ g) (i : Nat) (v : Value) : bo (w.setCell ⟨g, i, none⟩ v) b := by
 obtain ⟨cs, h1, h2⟩ := h
 exact ⟨cs, h1, al h2 hg v⟩
theorem bo.there {w : World} {b : Nat} (h : bo w b) : w.there b 0 32 := by
 obtain ⟨cs, h1, h2⟩ := h
 exact blk_there h2 0 32 (by omega)
theorem bo.lt {w : World} {b : Nat} (h : bo w b) : b < w.heap.size := by
 obtain ⟨cs, h1, h2⟩ := h
 exact aZ h2
theorem bo.fill {w : World} {b : Nat} (h : bo w b) (r : Rt) : ao (w.setCells b 0 r.cells) b r := by
 obtain ⟨cs, h1, h2⟩ := h
 exact blk_setAll h2 r.cells (by rw [h1]; rfl)
theorem bo.fillZ {w : World} {b : Nat} (h : bo w b) (vs : List Value) (hv : vs.length = 32) : (w.setCells b 0 vs).heap[b]? = some (.cells vs.toArray 36 (0, 0)) := by
 obtain ⟨cs, h1, h2⟩ := h
 exact blk_setAll h2 vs (by rw [h1]; exact hv)
theorem blk_setC {w : World} {g : Nat} {e : TypeId} {l : List Value} (h : w.heap[g]? = some (.cells l.toArray e (0, 0))) (o : Nat) (vs : List Value) (hl : o + vs.length ≤ l.length) : (w.setCells g o vs).heap[g]? = some (.cells (l.take o ++ vs ++ l.drop (o + vs.length)).toArray e (0, 0)) := by
 obtain ⟨cur, h1, h2, h3⟩ := setCells_row vs o w _ h (by simpa using hl)
 rw [h1, ← h3]
theorem ao.setM {w : World} {b : Nat} {r : Rt} (h : ao w b r) (m : Mp) : ao (w.setCells b 13 [.int .i64 m.k, .bool m.o, .int .u8 m.l, .int .u8 m.h, .int .u8 m.r, .bool m.md]) b { r with s := { r.s with mp := m } } := (blk_setC h 13 [.int .i64 m.k, .bool m.o, .int .u8 m.l, .int .u8 m.h, .int .u8 m.r, .bool m.md] (Nat.le_of_ble_eq_true rfl)).trans rfl
theorem ao.setL {w : World} {b : Nat} {r : Rt} (h : ao w b r) (c : Ck) : ao (w.setCells b 19 [.int .u8 c.s, .int .u8 c.m, .int .u8 c.h, .int .u16 c.d, .bool c.ht, .bool c.cy]) b { r with s := { r.s with lv := c } } := (blk_setC h 19 [.int .u8 c.s, .int .u8 c.m, .int .u8 c.h, .int .u16 c.d, .bool c.ht, .bool c.cy] (Nat.le_of_ble_eq_true rfl)).trans rfl
theorem ao.setH {w : World} {b : Nat} {r : Rt} (h : ao w b r) (c : Ck) : ao (w.setCells b 25 [.int .u8 c.s, .int .u8 c.m, .int .u8 c.h, .int .u16 c.d, .bool c.ht, .bool c.cy]) b { r with s := { r.s with hd := c } } := (blk_setC h 25 [.int .u8 c.s, .int .u8 c.m, .int .u8 c.h, .int .u16 c.d, .bool c.ht, .bool c.cy] (Nat.le_of_ble_eq_true rfl)).trans rfl
theorem ao.last {w : World} {b : Nat} {r : Rt} (h : ao w b r) (v : Int) : ao (w.setCell ⟨b, 31, none⟩ (.int .u8 v)) b { r with s := { r.s with last := v } } := an h 31 _ rfl
theorem ao.row {w : World} {b : Nat} {r : Rt} (h : ao w b r) (A : Option Addr) (c : Nat) (L : List Int) : ao (w.setCell ⟨b, 12, none⟩ (.slice A L.length c)) b { r with s := { r.s with ram := L }, Ar := A, cr := c } := an h 12 _ rfl
theorem ao.thereAt {w : World} {b : Nat} {r : Rt} (h : ao w b r) (o n : Nat) (hn : o + n ≤ 32) : w.there b o n := blk_there h o n (by simpa using hn)
theorem ao.alloc {w : World} {b : Nat} {r : Rt} (h : ao w b r) (o : Obj) : ao (w.alloc o) b r := ah h o
theorem bo.drew {w : World} {b : Nat} (h : bo w b) : bo w.drew b := by
 obtain ⟨cs, h1, h2⟩ := h
 exact ⟨cs, h1, ap h2⟩
theorem bo.alloc {w : World} {b : Nat} (h : bo w b) (o : Obj) : bo (w.alloc o) b := by
 obtain ⟨cs, h1, h2⟩ := h
 exact ⟨cs, h1, ah h2 o⟩
theorem bF (w : World) (o : Obj) (cs : List Value) (h : cs.length = 32) : bo ((w.alloc o).alloc (.cells cs.toArray 36)) (w.heap.size + 1) := by
 have q := bo.new (w.alloc o) cs h
 simpa using q
structure RtAt (w : World) (r : Rt) : Prop where
 img : Kd.C (Kd.int .u8) w r.Ai r.s.img.length r.s.img
 ci : r.s.img.length ≤ r.ci
 ram : Kd.C (Kd.int .u8) w r.Ar r.s.ram.length r.s.ram
 cr : r.s.ram.length ≤ r.cr
def Puts (f : FuncId) (args : Array Value) (v : Value) : Prop := ∀ w : World, Calls Try.prog f args w fun e w' => e = .returned v ∧ Below w.heap.size w w'
theorem Puts.run {f : FuncId} {args : Array Value} {v : Value} (h : Puts f args v) (w : World) : Calls Try.prog f args w fun e w' => e = .returned v ∧ Below w.heap.size w w' := h w
theorem rreg_no (r : Rt) (ad : Int) (hck : r.s.hdr.ck = false) : Puts 38 #[r.v, .int .u16 ad] (.int .i64 0) := by
 intro w
 go_enter Try.func38, Try.ntmps38
 go_wp2
 go_returns
 exact ⟨rfl, by go_grown⟩
theorem rreg_yes (r : Rt) (ad n : Int) (hck : r.s.hdr.ck = true) (hr : Puts 71 #[.agg #[.int .i64 r.s.mp.k, .bool r.s.mp.o, .int .u8 r.s.mp.l, .int .u8 r.s.mp.h, .int .u8 r.s.mp.r, .bool r.s.mp.md], .int .u16 ad] (.int .i64 n)) : Puts 38 #[r.v, .int .u16 ad] (.int .i64 n) := by
 intro w
 go_enter Try.func38, Try.ntmps38
 go_wp2_with fail
 refine (hr.run _).mono ?_
 rintro e' w1 ⟨rfl, hb⟩
 go_wp2
 go_returns
 exact ⟨rfl, ak (ac (Below.refl _ _) _) hb⟩
theorem rread_rom (s : Ct) (Ai : Option Addr) (ci : Nat) (Ar : Option Addr) (cr : Nat) (ad n : Int) (hlo : decide (ad < 32768) = true) (h0 : 0 ≤ n) (h1 : n < s.img.length) (w : World) (hat : RtAt w ⟨s, Ai, ci, Ar, cr⟩) (hr : Puts 37 #[.agg #[.int .i64 s.mp.k, .bool s.mp.o, .int .u8 s.mp.l, .int .u8 s.mp.h, .int .u8 s.mp.r, .bool s.mp.md], .int .u16 ad, .int .i64 s.img.length] (.int .i64 n)) :
  Calls Try.prog 14 #[(⟨s, Ai, ci, Ar, cr⟩ : Rt).v, .int .u16 ad] w fun e w' => e = .returned (.int .u8 (rd s.img n)) ∧ Below w.heap.size w w' := by
 have hI : Kd.C (Kd.int .u8) w Ai s.img.length s.img := hat.img
 have hc : s.img.length ≤ ci := hat.ci
 obtain ⟨g, rfl, _⟩ := Kd.at_int hI n (by omega) (by omega)
 have HI := ab.mk hI
 have hci : n < ci := by omega
 clear hat hI hc
 have BX := ab.mk (ao.new w (⟨s, (some g), ci, Ar, cr⟩ : Rt))
 have HB := ab.mk (ac (Below.refl w.heap.size w) (.cells (⟨s, (some g), ci, Ar, cr⟩ : Rt).cells.toArray 36))
 go_enter Try.func14, Try.ntmps14
 go_wp2_with fail
 generalize w.alloc (.cells #[.bool true, .string s.hdr.t, .int .u8 s.hdr.kd, .int .i64 s.hdr.mp, .bool s.hdr.rm, .bool s.hdr.bt, .bool s.hdr.ck, .int .i64 s.hdr.bk, .int .i64 s.hdr.sz, .int .u8 s.hdr.sm, .int .u16 s.hdr.wh, .slice (some g) s.img.length ci, .slice Ar s.ram.length cr, .int .i64 s.mp.k, .bool s.mp.o, .int .u8 s.mp.l, .int .u8 s.mp.h, .int .u8 s.mp.r, .bool s.mp.md, .int .u8 s.lv.s, .int .u8 s.lv.m, .int .u8 s.lv.h, .int .u16 s.lv.d, .bool s.lv.ht, .bool s.lv.cy, .int .u8 s.hd.s, .int .u8 s.hd.m, .int .u8 s.hd.h, .int .u16 s.hd.d, .bool s.hd.ht, .bool s.hd.cy, .int .u8 s.last] 36) = W at BX HB ⊢
 have c11 : W.cell? ⟨w.heap.size, 11, none⟩ = some (.slice (some g) s.img.length ci) := BX.out.c11
 have c13 : W.cell? ⟨w.heap.size, 13, none⟩ = some (.int .i64 s.mp.k) := BX.out.c13
 have c14 : W.cell? ⟨w.heap.size, 14, none⟩ = some (.bool s.mp.o) := BX.out.c14
 have c15 : W.cell? ⟨w.heap.size, 15, none⟩ = some (.int .u8 s.mp.l) := BX.out.c15
 have c16 : W.cell? ⟨w.heap.size, 16, none⟩ = some (.int .u8 s.mp.h) := BX.out.c16
 have c17 : W.cell? ⟨w.heap.size, 17, none⟩ = some (.int .u8 s.mp.r) := BX.out.c17
 have c18 : W.cell? ⟨w.heap.size, 18, none⟩ = some (.bool s.mp.md) := BX.out.c18
 obtain ⟨g', ea, cI⟩ := Kd.at_int (Kd.C_below HI.out HB.out) n (by omega) (by omega)
 obtain rfl := Option.some.inj ea
 clear ea
 go_region_held3 (fun w' => w'.cell? ⟨w.heap.size, 11, none⟩ = some (.slice (some g) s.img.length ci) ∧ w'.cell? ⟨w.heap.size, 13, none⟩ = some (.int .i64 s.mp.k) ∧ w'.cell? ⟨w.heap.size, 14, none⟩ = some (.bool s.mp.o) ∧ w'.cell? ⟨w.heap.size, 15, none⟩ = some (.int .u8 s.mp.l) ∧ w'.cell? ⟨w.heap.size, 16, none⟩ = some (.int .u8 s.mp.h) ∧ w'.cell? ⟨w.heap.size, 17, none⟩ = some (.int .u8 s.mp.r) ∧ w'.cell? ⟨w.heap.size, 18, none⟩ = some (.bool s.mp.md) ∧ w'.cell? (g.add n.toNat) = some (.int .u8 (rd s.img n))) (go_keep)
  (first | (go_at_call 37; ((with_reducible refine (hr.run _).mono ?_)); rintro e' w2 ⟨rfl, hb⟩; have n0 := ab.mk (af (ap BX.out) hb); have n1 := ab.mk (ak (aj HB.out) hb); clear hb; have d11 : w2.cell? ⟨w.heap.size, 11, none⟩ = some (.slice (some g) s.img.length ci) := ao.c11 n0.out; have d13 : w2.cell? ⟨w.heap.size, 13, none⟩ = some (.int .i64 s.mp.k) := ao.c13 n0.out; have d14 : w2.cell? ⟨w.heap.size, 14, none⟩ = some (.bool s.mp.o) := ao.c14 n0.out; have d15 : w2.cell? ⟨w.heap.size, 15, none⟩ = some (.int .u8 s.mp.l) := ao.c15 n0.out; have d16 : w2.cell? ⟨w.heap.size, 16, none⟩ = some (.int .u8 s.mp.h) := ao.c16 n0.out; have d17 : w2.cell? ⟨w.heap.size, 17, none⟩ = some (.int .u8 s.mp.r) := ao.c17 n0.out; have d18 : w2.cell? ⟨w.heap.size, 18, none⟩ = some (.bool s.mp.md) := ao.c18 n0.out; obtain ⟨g', ea, cI⟩ := Kd.at_int (Kd.C_below HI.out n1.out) n (by omega) (by omega); obtain rfl := Option.some.inj ea; clear ea))
 go_wp2
 go_returns
 exact ⟨rfl, n1.out⟩
theorem rread_reg (s : Ct) (Ai : Option Addr) (ci : Nat) (Ar : Option Addr) (cr : Nat) (ad n v x : Int) (hlo : decide (ad < 32768) = false) (h0 : (n == 0) = false) (hr : Puts 38 #[(⟨s, Ai, ci, Ar, cr⟩ : Rt).v, .int .u16 ad] (.int .i64 n)) (hv : Puts 39 #[.agg #[.int .u8 s.hd.s, .int .u8 s.hd.m, .int .u8 s.hd.h, .int .u16 s.hd.d, .bool s.hd.ht, .bool s.hd.cy], .int .i64 n] (.tuple #[.int .u8 v, .int .i64 x])) :
  Puts 14 #[(⟨s, Ai, ci, Ar, cr⟩ : Rt).v, .int .u16 ad] (.int .u8 v) := by
 intro w
 have BX := ab.mk (ao.new w (⟨s, Ai, ci, Ar, cr⟩ : Rt))
 have HB := ab.mk (ac (Below.refl w.heap.size w) (.cells (⟨s, Ai, ci, Ar, cr⟩ : Rt).cells.toArray 36))
 go_enter Try.func14, Try.ntmps14
 go_wp2_with (first | ((with_reducible refine ar (N := 25) rfl ?_); refine wpList_load_mid rfl 36 (.tmp 2) rfl w.heap.size 0 rfl (⟨s, Ai, ci, Ar, cr⟩ : Rt).cells _ (ao.range BX.out) rfl rfl (by kernel_rfl) ?_; simp only [Act.put, List.setIfInBounds_toArray, List.set_cons_zero, List.set_cons_succ]))
 generalize w.alloc (.cells #[.bool true, .string s.hdr.t, .int .u8 s.hdr.kd, .int .i64 s.hdr.mp, .bool s.hdr.rm, .bool s.hdr.bt, .bool s.hdr.ck, .int .i64 s.hdr.bk, .int .i64 s.hdr.sz, .int .u8 s.hdr.sm, .int .u16 s.hdr.wh, .slice Ai s.img.length ci, .slice Ar s.ram.length cr, .int .i64 s.mp.k, .bool s.mp.o, .int .u8 s.mp.l, .int .u8 s.mp.h, .int .u8 s.mp.r, .bool s.mp.md, .int .u8 s.lv.s, .int .u8 s.lv.m, .int .u8 s.lv.h, .int .u16 s.lv.d, .bool s.lv.ht, .bool s.lv.cy, .int .u8 s.hd.s, .int .u8 s.hd.m, .int .u8 s.hd.h, .int .u16 s.hd.d, .bool s.hd.ht, .bool s.hd.cy, .int .u8 s.last] 36) = W at BX HB ⊢
 refine (hr _).mono ?_
 rintro e' w2 ⟨rfl, hb⟩
 have n0 := ab.mk (BX.out.below hb)
 have n1 := ab.mk (ak HB.out hb)
 clear hb BX HB
 have c25 : w2.cell? ⟨w.heap.size, 25, none⟩ = some (.int .u8 s.hd.s) := n0.out.c25
 have c26 : w2.cell? ⟨w.heap.size, 26, none⟩ = some (.int .u8 s.hd.m) := n0.out.c26
 have c27 : w2.cell? ⟨w.heap.size, 27, none⟩ = some (.int .u8 s.hd.h) := n0.out.c27
 have c28 : w2.cell? ⟨w.heap.size, 28, none⟩ = some (.int .u16 s.hd.d) := n0.out.c28
 have c29 : w2.cell? ⟨w.heap.size, 29, none⟩ = some (.bool s.hd.ht) := n0.out.c29
 have c30 : w2.cell? ⟨w.heap.size, 30, none⟩ = some (.bool s.hd.cy) := n0.out.c30
 go_wp2_with fail
 refine (hv _).mono ?_
 rintro e' w3 ⟨rfl, hb⟩
 go_wp2
 go_returns
 exact ⟨rfl, ak n1.out hb⟩
theorem rread_no (s : Ct) (Ai : Option Addr) (ci : Nat) (Ar : Option Addr) (cr : Nat) (ad at_ : Int) (hlo : decide (ad < 32768) = false) (hat0 : decide (at_ < 0) = true) (hr : Puts 38 #[(⟨s, Ai, ci, Ar, cr⟩ : Rt).v, .int .u16 ad] (.int .i64 0)) (ha : Puts 40 #[.agg #[.int .i64 s.mp.k, .bool s.mp.o, .int .u8 s.mp.l, .int .u8 s.mp.h, .int .u8 s.mp.r, .bool s.mp.md], .int .u16 ad, .int .i64 s.ram.length] (.int .i64 at_)) (w : World) (hat : RtAt w ⟨s, Ai, ci, Ar, cr⟩) :
  Calls Try.prog 14 #[(⟨s, Ai, ci, Ar, cr⟩ : Rt).v, .int .u16 ad] w fun e w' => e = .returned (.int .u8 255) ∧ Below w.heap.size w w' := by
 clear hat
 have BX := ab.mk (ao.new w (⟨s, Ai, ci, Ar, cr⟩ : Rt))
 have HB := ab.mk (ac (Below.refl w.heap.size w) (.cells (⟨s, Ai, ci, Ar, cr⟩ : Rt).cells.toArray 36))
 go_enter Try.func14, Try.ntmps14
 go_wp2_with (first | ((with_reducible refine ar (N := 25) rfl ?_); refine wpList_load_mid rfl 36 (.tmp 2) rfl w.heap.size 0 rfl (⟨s, Ai, ci, Ar, cr⟩ : Rt).cells _ (ao.range BX.out) rfl rfl (by kernel_rfl) ?_; simp only [Act.put, List.setIfInBounds_toArray, List.set_cons_zero, List.set_cons_succ]))
 generalize w.alloc (.cells #[.bool true, .string s.hdr.t, .int .u8 s.hdr.kd, .int .i64 s.hdr.mp, .bool s.hdr.rm, .bool s.hdr.bt, .bool s.hdr.ck, .int .i64 s.hdr.bk, .int .i64 s.hdr.sz, .int .u8 s.hdr.sm, .int .u16 s.hdr.wh, .slice Ai s.img.length ci, .slice Ar s.ram.length cr, .int .i64 s.mp.k, .bool s.mp.o, .int .u8 s.mp.l, .int .u8 s.mp.h, .int .u8 s.mp.r, .bool s.mp.md, .int .u8 s.lv.s, .int .u8 s.lv.m, .int .u8 s.lv.h, .int .u16 s.lv.d, .bool s.lv.ht, .bool s.lv.cy, .int .u8 s.hd.s, .int .u8 s.hd.m, .int .u8 s.hd.h, .int .u16 s.hd.d, .bool s.hd.ht, .bool s.hd.cy, .int .u8 s.last] 36) = W at BX HB ⊢
 refine (hr _).mono ?_
 rintro e' w2 ⟨rfl, hb⟩
 have n0 := ab.mk (BX.out.below hb)
 have n1 := ab.mk (ak HB.out hb)
 clear hb BX HB
 have c12 : w2.cell? ⟨w.heap.size, 12, none⟩ = some (.slice Ar s.ram.length cr) := n0.out.c12
 have c13 : w2.cell? ⟨w.heap.size, 13, none⟩ = some (.int .i64 s.mp.k) := n0.out.c13
 have c14 : w2.cell? ⟨w.heap.size, 14, none⟩ = some (.bool s.mp.o) := n0.out.c14
 have c15 : w2.cell? ⟨w.heap.size, 15, none⟩ = some (.int .u8 s.mp.l) := n0.out.c15
 have c16 : w2.cell? ⟨w.heap.size, 16, none⟩ = some (.int .u8 s.mp.h) := n0.out.c16
 have c17 : w2.cell? ⟨w.heap.size, 17, none⟩ = some (.int .u8 s.mp.r) := n0.out.c17
 have c18 : w2.cell? ⟨w.heap.size, 18, none⟩ = some (.bool s.mp.md) := n0.out.c18
 go_wp2_with fail
 refine (ha _).mono ?_
 rintro e' w3 ⟨rfl, hb⟩
 have m1 := ab.mk (ak n1.out hb)
 clear hb
 go_wp2
 go_returns
 exact ⟨rfl, m1.out⟩
theorem rread_ram (s : Ct) (Ai : Option Addr) (ci : Nat) (Ar : Option Addr) (cr : Nat) (ad at_ : Int) (hlo : decide (ad < 32768) = false) (hat0 : decide (at_ < 0) = false) (h1 : at_ < s.ram.length) (hr : Puts 38 #[(⟨s, Ai, ci, Ar, cr⟩ : Rt).v, .int .u16 ad] (.int .i64 0)) (ha : Puts 40 #[.agg #[.int .i64 s.mp.k, .bool s.mp.o, .int .u8 s.mp.l, .int .u8 s.mp.h, .int .u8 s.mp.r, .bool s.mp.md], .int .u16 ad, .int .i64 s.ram.length] (.int .i64 at_)) (w : World) (hat : RtAt w ⟨s, Ai, ci, Ar, cr⟩) :
  Calls Try.prog 14 #[(⟨s, Ai, ci, Ar, cr⟩ : Rt).v, .int .u16 ad] w fun e w' => e = .returned (.int .u8 (rd s.ram at_)) ∧ Below w.heap.size w w' := by
 have h0 : 0 ≤ at_ := by simpa using hat0
 have hI : Kd.C (Kd.int .u8) w Ar s.ram.length s.ram := hat.ram
 have hc : s.ram.length ≤ cr := hat.cr
 obtain ⟨g, rfl, _⟩ := Kd.at_int hI at_ (by omega) (by omega)
 have HI := ab.mk hI
 have hci : at_ < cr := by omega
 clear hat hI hc
 have BX := ab.mk (ao.new w (⟨s, Ai, ci, (some g), cr⟩ : Rt))
 have HB := ab.mk (ac (Below.refl w.heap.size w) (.cells (⟨s, Ai, ci, (some g), cr⟩ : Rt).cells.toArray 36))
 go_enter Try.func14, Try.ntmps14
 go_wp2_with (first | ((with_reducible refine ar (N := 25) rfl ?_); refine wpList_load_mid rfl 36 (.tmp 2) rfl w.heap.size 0 rfl (⟨s, Ai, ci, (some g), cr⟩ : Rt).cells _ (ao.range BX.out) rfl rfl (by kernel_rfl) ?_; simp only [Act.put, List.setIfInBounds_toArray, List.set_cons_zero, List.set_cons_succ]))
 generalize w.alloc (.cells #[.bool true, .string s.hdr.t, .int .u8 s.hdr.kd, .int .i64 s.hdr.mp, .bool s.hdr.rm, .bool s.hdr.bt, .bool s.hdr.ck, .int .i64 s.hdr.bk, .int .i64 s.hdr.sz, .int .u8 s.hdr.sm, .int .u16 s.hdr.wh, .slice Ai s.img.length ci, .slice (some g) s.ram.length cr, .int .i64 s.mp.k, .bool s.mp.o, .int .u8 s.mp.l, .int .u8 s.mp.h, .int .u8 s.mp.r, .bool s.mp.md, .int .u8 s.lv.s, .int .u8 s.lv.m, .int .u8 s.lv.h, .int .u16 s.lv.d, .bool s.lv.ht, .bool s.lv.cy, .int .u8 s.hd.s, .int .u8 s.hd.m, .int .u8 s.hd.h, .int .u16 s.hd.d, .bool s.hd.ht, .bool s.hd.cy, .int .u8 s.last] 36) = W at BX HB ⊢
 refine (hr _).mono ?_
 rintro e' w2 ⟨rfl, hb⟩
 have n0 := ab.mk (BX.out.below hb)
 have n1 := ab.mk (ak HB.out hb)
 clear hb BX HB
 have c12 : w2.cell? ⟨w.heap.size, 12, none⟩ = some (.slice (some g) s.ram.length cr) := n0.out.c12
 have c13 : w2.cell? ⟨w.heap.size, 13, none⟩ = some (.int .i64 s.mp.k) := n0.out.c13
 have c14 : w2.cell? ⟨w.heap.size, 14, none⟩ = some (.bool s.mp.o) := n0.out.c14
 have c15 : w2.cell? ⟨w.heap.size, 15, none⟩ = some (.int .u8 s.mp.l) := n0.out.c15
 have c16 : w2.cell? ⟨w.heap.size, 16, none⟩ = some (.int .u8 s.mp.h) := n0.out.c16
 have c17 : w2.cell? ⟨w.heap.size, 17, none⟩ = some (.int .u8 s.mp.r) := n0.out.c17
 have c18 : w2.cell? ⟨w.heap.size, 18, none⟩ = some (.bool s.mp.md) := n0.out.c18
 go_wp2_with fail
 refine (ha _).mono ?_
 rintro e' w3 ⟨rfl, hb⟩
 have m0 := ab.mk (n0.out.below hb)
 have m1 := ab.mk (ak n1.out hb)
 clear hb c12 c13 c14 c15 c16 c17 c18 n0 n1
 have c12 : w3.cell? ⟨w.heap.size, 12, none⟩ = some (.slice (some g) s.ram.length cr) := m0.out.c12
 obtain ⟨g', ea, cI⟩ := Kd.at_int (Kd.C_below HI.out m1.out) at_ (by omega) (by omega)
 obtain rfl := Option.some.inj ea
 clear ea
 go_wp2
 go_returns
 exact ⟨rfl, m1.out⟩
theorem Kd.R_base {w : World} {b0 b1 : Nat} {v : Value} {l : List Int} (h : Kd.R (Kd.int .u8) 5 w b1 (fun _ => True) v l) (hb : b0 ≤ b1) : Kd.R (Kd.int .u8) 5 w b0 (fun _ => True) v l := by
 obtain ⟨h1, h2⟩ := Kd.own_of_R h
 refine Kd.R_of_own ⟨h1, ?_⟩ (fun _ _ => trivial)
 rcases h2 with h2 | ⟨g, c, cur, e, hg, hx⟩
 ·exact Or.inl h2
 ·exact Or.inr ⟨g, c, cur, e, Nat.le_trans hb hg, hx⟩
def PutsR (f : FuncId) (args : Array Value) (l : List Int) : Prop := ∀ w : World, Calls Try.prog f args w fun e w' => ∃ v0 : Value, e = .returned v0 ∧ Kd.R (Kd.int .u8) 5 w' w.heap.size (fun _ => True) v0 l ∧ Below w.heap.size w w'
theorem PutsR.run {f : FuncId} {args : Array Value} {l : List Int} (h : PutsR f args l) (w : World) : Calls Try.prog f args w fun e w' => ∃ v0 : Value, e = .returned v0 ∧ Kd.R (Kd.int .u8) 5 w' w.heap.size (fun _ => True) v0 l ∧ Below w.heap.size w w' := h w
theorem rsave_no (s : Ct) (Ai : Option Addr) (ci : Nat) (Ar : Option Addr) (cr : Nat) (hbt : s.hdr.bt = false) : Puts 23 #[(⟨s, Ai, ci, Ar, cr⟩ : Rt).v] (.slice none 0 0) := by
 intro w
 have H5 := ab.mk hbt
 clear hbt
 have BX0 := ab.mk (ao.new w (⟨s, Ai, ci, Ar, cr⟩ : Rt))
 have HB0 := ab.mk (ac (Below.refl w.heap.size w) (.cells (⟨s, Ai, ci, Ar, cr⟩ : Rt).cells.toArray 36))
 go_enter Try.func23, Try.ntmps23
 go_wp2_with ((with_reducible refine ar (N := 4) rfl ?_); have BX := BX0; have HB := HB0; clear BX0 HB0; generalize w.alloc (.cells #[.bool true, .string s.hdr.t, .int .u8 s.hdr.kd, .int .i64 s.hdr.mp, .bool s.hdr.rm, .bool s.hdr.bt, .bool s.hdr.ck, .int .i64 s.hdr.bk, .int .i64 s.hdr.sz, .int .u8 s.hdr.sm, .int .u16 s.hdr.wh, .slice Ai s.img.length ci, .slice Ar s.ram.length cr, .int .i64 s.mp.k, .bool s.mp.o, .int .u8 s.mp.l, .int .u8 s.mp.h, .int .u8 s.mp.r, .bool s.mp.md, .int .u8 s.lv.s, .int .u8 s.lv.m, .int .u8 s.lv.h, .int .u16 s.lv.d, .bool s.lv.ht, .bool s.lv.cy, .int .u8 s.hd.s, .int .u8 s.hd.m, .int .u8 s.hd.h, .int .u16 s.hd.d, .bool s.hd.ht, .bool s.hd.cy, .int .u8 s.last] 36) = W at BX HB ⊢; have c0 : W.cell? ⟨w.heap.size, 0, none⟩ = some (.bool true) := ao.c0 BX.out; have c5 : W.cell? ⟨w.heap.size, 5, none⟩ = some (.bool false) := (ao.c5 BX.out).trans (by rw [H5.out]))
 go_ret
 exact ⟨rfl, HB.out⟩
theorem rsave_ram (s : Ct) (Ai : Option Addr) (ci : Nat) (Ar : Option Addr) (cr : Nat) (hbt : s.hdr.bt = true) (hck : s.hdr.ck = false) (hln : s.ram.length ≤ 1048576) (w : World) (hI : Kd.C (Kd.int .u8) w Ar s.ram.length s.ram) :
  Calls Try.prog 23 #[(⟨s, Ai, ci, Ar, cr⟩ : Rt).v] w fun e w' => ∃ v0 : Value, e = .returned v0 ∧ Kd.R (Kd.int .u8) 5 w' w.heap.size (fun _ => True) v0 s.ram ∧ Below w.heap.size w w' := by
 have HI := ab.mk hI
 have HLn := ab.mk hln
 have H5 := ab.mk hbt
 have H6 := ab.mk hck
 clear hbt hck
 clear hI hln
 have BX0 := ab.mk (ao.new w (⟨s, Ai, ci, Ar, cr⟩ : Rt))
 have HB0 := ab.mk (ac (Below.refl w.heap.size w) (.cells (⟨s, Ai, ci, Ar, cr⟩ : Rt).cells.toArray 36))
 go_enter Try.func23, Try.ntmps23
 go_wp2_with (first
  | ((with_reducible refine ar (N := 4) rfl ?_); have BX := BX0; have HB := HB0; clear BX0 HB0; generalize w.alloc (.cells #[.bool true, .string s.hdr.t, .int .u8 s.hdr.kd, .int .i64 s.hdr.mp, .bool s.hdr.rm, .bool s.hdr.bt, .bool s.hdr.ck, .int .i64 s.hdr.bk, .int .i64 s.hdr.sz, .int .u8 s.hdr.sm, .int .u16 s.hdr.wh, .slice Ai s.img.length ci, .slice Ar s.ram.length cr, .int .i64 s.mp.k, .bool s.mp.o, .int .u8 s.mp.l, .int .u8 s.mp.h, .int .u8 s.mp.r, .bool s.mp.md, .int .u8 s.lv.s, .int .u8 s.lv.m, .int .u8 s.lv.h, .int .u16 s.lv.d, .bool s.lv.ht, .bool s.lv.cy, .int .u8 s.hd.s, .int .u8 s.hd.m, .int .u8 s.hd.h, .int .u16 s.hd.d, .bool s.hd.ht, .bool s.hd.cy, .int .u8 s.last] 36) = W at BX HB ⊢; have c0 : W.cell? ⟨w.heap.size, 0, none⟩ = some (.bool true) := ao.c0 BX.out; have c5 : W.cell? ⟨w.heap.size, 5, none⟩ = some (.bool true) := (ao.c5 BX.out).trans (by rw [H5.out]))
  | ((with_reducible refine ar (N := 13) rfl ?_); refine Kd.R_lit (Kd.int .u8) (w0 := W) W.heap.size 5 ?hg (N := 13) ?hd (xs := ([] : List Int)) (inner := []) (ok := fun _ => True) (okp := fun _ => True) ?hr ?hp (fun _ hk => hk) trivial (Below.refl _ _) (Nat.le_refl _) (by simp) ?_; (case hd => rfl); (case hg => rfl); (case hr => first | (go_simp; done) | (go_simp; rfl)); (case hp => exact (Reps.none _ _)); intro v5 w5 ho hb5 hg_ hnew_; clear hg_ hnew_; have HO := ab.mk ho; have HB5 := ab.mk hb5; have b_ := ab.mk (BX.out.below hb5); have h_ := ab.mk (ak HB.out hb5); have c12 : w5.cell? ⟨w.heap.size, 12, none⟩ = some (.slice Ar s.ram.length cr) := ao.c12 b_.out; clear ho hb5)
  | ((with_reducible refine bJ (b := .append) (xs := #[.tmp 13, .tmp 15]) rfl ?_); at_builtin; refine Kd.R_append_rows (Kd.int .u8) (w0 := W) W.heap.size rfl (.tmp 13) (.tmp 15) 22 5 (.int .u8 0) 1 rfl Try.underlying22 info5 rfl (by decide) (by omega) v5 [] s.ram _ _ _ (fun _ => True) (fun _ => False) rfl rfl HO.out ?aR (fun _ _ h => h) (fun _ h => h.elim) (fun _ _ => trivial) HB5.out (aw HB5.out) ?aL ?_; (case aR => exact Kd.C_below HI.out h_.out); (case aL => have := HLn.out; simp; omega); intro v6 w6 ho hb6 hg hat_; clear hg hat_; clear c12; rw [List.nil_append] at ho; have HR6 := ab.mk (Kd.R_base ho HB.out.size); have b6 := ab.mk (BX.out.below hb6); have h6 := ab.mk (ak HB.out hb6); clear ho hb6 BX HB b_ h_ HO HB5; have BX := b6; have HB := h6; clear b6 h6; have c6 : w6.cell? ⟨w.heap.size, 6, none⟩ = some (.bool false) := (ao.c6 BX.out).trans (by rw [H6.out])))
 go_ret
 exact ⟨v6, rfl, HR6.out, HB.out⟩
theorem rsave_all (s : Ct) (Ai : Option Addr) (ci : Nat) (Ar : Option Addr) (cr : Nat) (hbt : s.hdr.bt = true) (hck : s.hdr.ck = true) (bs : List Int) (hbs : PutsR 49 #[.agg #[.int .u8 s.lv.s, .int .u8 s.lv.m, .int .u8 s.lv.h, .int .u16 s.lv.d, .bool s.lv.ht, .bool s.lv.cy], .agg #[.int .u8 s.hd.s, .int .u8 s.hd.m, .int .u8 s.hd.h, .int .u16 s.hd.d, .bool s.hd.ht, .bool s.hd.cy]] bs) (hbl : bs.length ≤ 1048576) (hln : s.ram.length ≤ 1048576) (w : World) (hI : Kd.C (Kd.int .u8) w Ar s.ram.length s.ram) :
  Calls Try.prog 23 #[(⟨s, Ai, ci, Ar, cr⟩ : Rt).v] w fun e w' => ∃ v0 : Value, e = .returned v0 ∧ Kd.R (Kd.int .u8) 5 w' w.heap.size (fun _ => True) v0 (s.ram ++ bs) ∧ Below w.heap.size w w' := by
 have HI := ab.mk hI
 have HLn := ab.mk hln
 have H5 := ab.mk hbt
 have H6 := ab.mk hck
 clear hbt hck
 clear hI hln
 have HL2 := ab.mk hbl
 clear hbl
 have BX0 := ab.mk (ao.new w (⟨s, Ai, ci, Ar, cr⟩ : Rt))
 have HB0 := ab.mk (ac (Below.refl w.heap.size w) (.cells (⟨s, Ai, ci, Ar, cr⟩ : Rt).cells.toArray 36))
 go_enter Try.func23, Try.ntmps23
 go_wp2_with (first
  | ((with_reducible refine ar (N := 4) rfl ?_); have BX := BX0; have HB := HB0; clear BX0 HB0; generalize w.alloc (.cells #[.bool true, .string s.hdr.t, .int .u8 s.hdr.kd, .int .i64 s.hdr.mp, .bool s.hdr.rm, .bool s.hdr.bt, .bool s.hdr.ck, .int .i64 s.hdr.bk, .int .i64 s.hdr.sz, .int .u8 s.hdr.sm, .int .u16 s.hdr.wh, .slice Ai s.img.length ci, .slice Ar s.ram.length cr, .int .i64 s.mp.k, .bool s.mp.o, .int .u8 s.mp.l, .int .u8 s.mp.h, .int .u8 s.mp.r, .bool s.mp.md, .int .u8 s.lv.s, .int .u8 s.lv.m, .int .u8 s.lv.h, .int .u16 s.lv.d, .bool s.lv.ht, .bool s.lv.cy, .int .u8 s.hd.s, .int .u8 s.hd.m, .int .u8 s.hd.h, .int .u16 s.hd.d, .bool s.hd.ht, .bool s.hd.cy, .int .u8 s.last] 36) = W at BX HB ⊢; have c0 : W.cell? ⟨w.heap.size, 0, none⟩ = some (.bool true) := ao.c0 BX.out; have c5 : W.cell? ⟨w.heap.size, 5, none⟩ = some (.bool true) := (ao.c5 BX.out).trans (by rw [H5.out]))
  | ((with_reducible refine ar (N := 13) rfl ?_); refine Kd.R_lit (Kd.int .u8) (w0 := W) W.heap.size 5 ?hg (N := 13) ?hd (xs := ([] : List Int)) (inner := []) (ok := fun _ => True) (okp := fun _ => True) ?hr ?hp (fun _ hk => hk) trivial (Below.refl _ _) (Nat.le_refl _) (by simp) ?_; (case hd => rfl); (case hg => rfl); (case hr => first | (go_simp; done) | (go_simp; rfl)); (case hp => exact (Reps.none _ _)); intro v5 w5 ho hb5 hg_ hnew_; clear hg_ hnew_; have HO := ab.mk ho; have HB5 := ab.mk hb5; have b_ := ab.mk (BX.out.below hb5); have h_ := ab.mk (ak HB.out hb5); have c12 : w5.cell? ⟨w.heap.size, 12, none⟩ = some (.slice Ar s.ram.length cr) := ao.c12 b_.out; clear ho hb5)
  | ((with_reducible refine bJ (b := .append) (xs := #[.tmp 13, .tmp 15]) rfl ?_); at_builtin; refine Kd.R_append_rows (Kd.int .u8) (w0 := W) W.heap.size rfl (.tmp 13) (.tmp 15) 22 5 (.int .u8 0) 1 rfl Try.underlying22 info5 rfl (by decide) (by omega) v5 [] s.ram _ _ _ (fun _ => True) (fun _ => False) rfl rfl HO.out ?aR (fun _ _ h => h) (fun _ h => h.elim) (fun _ _ => trivial) HB5.out (aw HB5.out) ?aL ?_; (case aR => exact Kd.C_below HI.out h_.out); (case aL => have := HLn.out; simp; omega); intro v6 w6 ho hb6 hg hat_; clear hg hat_; clear c12; rw [List.nil_append] at ho; have HR6 := ab.mk (Kd.R_base ho HB.out.size); have b6 := ab.mk (BX.out.below hb6); have h6 := ab.mk (ak HB.out hb6); clear ho hb6 BX HB b_ h_ HO HB5; have BX := b6; have HB := h6; clear b6 h6; have c6 : w6.cell? ⟨w.heap.size, 6, none⟩ = some (.bool true) := (ao.c6 BX.out).trans (by rw [H6.out]); have c19 : w6.cell? ⟨w.heap.size, 19, none⟩ = some (.int .u8 s.lv.s) := ao.c19 BX.out; have c20 : w6.cell? ⟨w.heap.size, 20, none⟩ = some (.int .u8 s.lv.m) := ao.c20 BX.out; have c21 : w6.cell? ⟨w.heap.size, 21, none⟩ = some (.int .u8 s.lv.h) := ao.c21 BX.out; have c22 : w6.cell? ⟨w.heap.size, 22, none⟩ = some (.int .u16 s.lv.d) := ao.c22 BX.out; have c23 : w6.cell? ⟨w.heap.size, 23, none⟩ = some (.bool s.lv.ht) := ao.c23 BX.out; have c24 : w6.cell? ⟨w.heap.size, 24, none⟩ = some (.bool s.lv.cy) := ao.c24 BX.out; have c25 : w6.cell? ⟨w.heap.size, 25, none⟩ = some (.int .u8 s.hd.s) := ao.c25 BX.out; have c26 : w6.cell? ⟨w.heap.size, 26, none⟩ = some (.int .u8 s.hd.m) := ao.c26 BX.out; have c27 : w6.cell? ⟨w.heap.size, 27, none⟩ = some (.int .u8 s.hd.h) := ao.c27 BX.out; have c28 : w6.cell? ⟨w.heap.size, 28, none⟩ = some (.int .u16 s.hd.d) := ao.c28 BX.out; have c29 : w6.cell? ⟨w.heap.size, 29, none⟩ = some (.bool s.hd.ht) := ao.c29 BX.out; have c30 : w6.cell? ⟨w.heap.size, 30, none⟩ = some (.bool s.hd.cy) := ao.c30 BX.out))
 refine (PutsR.run hbs _).mono ?_
 rintro e' w7 ⟨v7, rfl, hr, hb⟩
 obtain ⟨A2, cc2, rfl, hcc2, hC2⟩ := Kd.R_reads hr
 have HC2 := ab.mk hC2
 have HR7 := ab.mk (Kd.R_below HR6.out hb)
 have HB7 := ab.mk (ak HB.out hb)
 clear hr hb hC2 c19 c20 c21 c22 c23 c24 c25 c26 c27 c28 c29 c30 c6 HR6 HB BX
 go_wp2_with ((with_reducible refine bJ (b := .append) (xs := #[.tmp 20, .tmp 25]) rfl ?_); at_builtin; refine Kd.R_append_rows (Kd.int .u8) (w0 := w) w.heap.size rfl (.tmp 20) (.tmp 25) 22 5 (.int .u8 0) 1 rfl Try.underlying22 info5 rfl (by decide) (by omega) v6 s.ram bs _ _ _ (fun _ => True) (fun _ => False) rfl rfl HR7.out ?aR (fun _ _ h => h) (fun _ h => h.elim) (fun _ _ => trivial) HB7.out (aw HB7.out) ?aL ?_; (case aR => exact HC2.out); (case aL => have := HLn.out; have := HL2.out; omega); intro v8 w8 ho hb6 hg hat_; clear hg hat_; have HR8 := ab.mk ho; have HB8 := ab.mk hb6; clear ho hb6)
 go_ret
 exact ⟨v8, rfl, HR8.out, HB8.out⟩
end Go.Proofs.Ytmjjojbedllmgaa.Hand
section
namespace Go.Proofs.Ytmjjojbedllmgaa.Pure
open Go.Proofs.Ytmjjojbedllmgaa.Hand
theorem u8_and63 (x : Int) (h : 0 ≤ x ∧ x ≤ 255) : Go.bits .and .u8 x 63 = x % 64 :=
 bits_mask .u8 8 (by decide) (fun n a b => by rw [IntKind.wrap_u8]; omega) 6 (by decide) x h.1 (by show x < 256; omega)
theorem u8_and31 (x : Int) (h : 0 ≤ x ∧ x ≤ 255) : Go.bits .and .u8 x 31 = x % 32 :=
 bits_mask .u8 8 (by decide) (fun n a b => by rw [IntKind.wrap_u8]; omega) 5 (by decide) x h.1 (by show x < 256; omega)
theorem u16_and511 (x : Int) (h : 0 ≤ x ∧ x ≤ 65535) : Go.bits .and .u16 x 511 = x % 512 :=
 bits_mask .u16 16 (by decide) (fun n a b => by rw [IntKind.wrap_u16]; omega) 9 (by decide) x h.1 (by show x < 65536; omega)
abbrev C := Int × Int × Int × Int × Bool × Bool
def wide (c : C) : Prop := (0 ≤ c.1 ∧ c.1 ≤ 255) ∧ (0 ≤ c.2.1 ∧ c.2.1 ≤ 255) ∧ (0 ≤ c.2.2.1 ∧ c.2.2.1 ≤ 255) ∧ (0 ≤ c.2.2.2.1 ∧ c.2.2.2.1 ≤ 65535)
def okC (c : C) : Prop := (0 ≤ c.1 ∧ c.1 ≤ 63) ∧ (0 ≤ c.2.1 ∧ c.2.1 ≤ 63) ∧ (0 ≤ c.2.2.1 ∧ c.2.2.1 ≤ 31) ∧ (0 ≤ c.2.2.2.1 ∧ c.2.2.2.1 ≤ 511)
theorem okC.wide {c : C} (h : okC c) : wide c := by
 obtain ⟨h1, h2, h3, h4⟩ := h
 exact ⟨by omega, by omega, by omega, by omega⟩
def nm (c : C) : C := (c.1 % 64, c.2.1 % 64, c.2.2.1 % 32, c.2.2.2.1 % 512, c.2.2.2.2.1, c.2.2.2.2.2)
def tk (c : C) : C :=
 if c.2.2.2.2.1 = true then c else
 if ¬ c.1 = 59 then ((c.1 + 1) % 64, c.2.1, c.2.2.1, c.2.2.2.1, false, c.2.2.2.2.2) else
 if ¬ c.2.1 = 59 then (0, (c.2.1 + 1) % 64, c.2.2.1, c.2.2.2.1, false, c.2.2.2.2.2) else
 if ¬ c.2.2.1 = 23 then (0, 0, (c.2.2.1 + 1) % 32, c.2.2.2.1, false, c.2.2.2.2.2) else
 (0, 0, 0, (c.2.2.2.1 + 1) % 512, false, if c.2.2.2.2.2 = true then true else c.2.2.2.1 == 511)
theorem nm_ok (c : C) : okC (nm c) := by
 unfold okC nm; dsimp only; omega
theorem nm_of {c : C} (h : okC c) : nm c = c := by
 obtain ⟨s, m, hh, d, ht, cy⟩ := c
 unfold okC at h; dsimp only at h
 unfold nm; dsimp only
 rw [show s % 64 = s by omega, show m % 64 = m by omega, show hh % 32 = hh by omega, show d % 512 = d by omega]
theorem tk_ok {c : C} (h : okC c) : okC (tk c) := by
 obtain ⟨s, m, hh, d, ht, cy⟩ := c
 unfold okC at h; dsimp only at h
 unfold okC tk; dsimp only
 split
 ·dsimp only; omega
 split
 ·dsimp only; omega
 split
 ·dsimp only; omega
 split
 ·dsimp only; omega
 ·dsimp only; omega
theorem cz (c : C) (h : wide c) : aV.f c.1 c.2.1 c.2.2.1 c.2.2.2.1 c.2.2.2.2.1 c.2.2.2.2.2 = some (nm c) := by
 obtain ⟨h1, h2, h3, h4⟩ := h
 unfold aV.f nm
 rw [u8_and63 _ h1, u8_and63 _ h2, u8_and31 _ h3, u16_and511 _ h4]
theorem tick_prog (c : C) (h : wide c) : cj.f c.1 c.2.1 c.2.2.1 c.2.2.2.1 c.2.2.2.2.1 c.2.2.2.2.2 = some (tk (nm c)) := by
 unfold cj.f
 rw [cz c h]
 have hn := nm_ok c
 generalize nm c = e at hn
 obtain ⟨s, m, hh, d, ht, cy⟩ := e
 unfold okC at hn; dsimp only at hn
 simp only [Option.bind_some]
 unfold tickT tk
 dsimp only
 cases ht with
 | true => simp only [if_true]
 | false =>
  simp only [Bool.false_eq_true, if_false]
  have e : Go.bits .and .u16 (IntKind.u16.wrap (d + 1)) 511 = (d + 1) % 512 := by
   rw [u16_and511 _ (by rw [IntKind.wrap_u16]; omega), IntKind.wrap_u16]; omega
  rw [e]
def rdC (c : C) (r : Int) : Int × Int :=
 if r = 8 then (c.1, 0) else if r = 9 then (c.2.1, 0) else if r = 10 then (c.2.2.1, 0) else if r = 11 then (c.2.2.2.1 % 256, 0) else
 if r = 12 then (Go.bits .or .u8 (Go.bits .or .u8 ((c.2.2.2.1 / 256) % 256) (if c.2.2.2.2.1 = true then 64 else 0)) (if c.2.2.2.2.2 = true then 128 else 0), 0) else (0, 7)
theorem cf (c : C) (h : wide c) (r : Int) : aK.f c.1 c.2.1 c.2.2.1 c.2.2.2.1 c.2.2.2.2.1 c.2.2.2.2.2 r = some (rdC (nm c) r) := by
 unfold aK.f rdC
 rw [cz c h]
 simp only [Option.bind_some]
 have hb : ∀ (x : Bool) (n : Int), bA.f x n = some (if x = true then n else 0) := by intro x n; unfold bA.f; cases x <;> rfl
 rw [hb, hb]
 simp only [Option.bind_some]
 split
 ·rfl
 split
 ·rfl
 split
 ·rfl
 split
 ·rfl
 split <;> rfl
def five (c : C) : List Int := [(rdC (nm c) 8).1, (rdC (nm c) 9).1, (rdC (nm c) 10).1, (rdC (nm c) 11).1, (rdC (nm c) 12).1]
theorem bytes_prog (c b : C) (hc : wide c) (hb : wide b) : bp.f c.1 c.2.1 c.2.2.1 c.2.2.2.1 c.2.2.2.2.1 c.2.2.2.2.2 b.1 b.2.1 b.2.2.1 b.2.2.2.1 b.2.2.2.2.1 b.2.2.2.2.2 = some (five c ++ five b) := by
 unfold bp.f
 rw [cf c hc 8]
 simp only [Option.bind_some]
 rw [cf c hc 9]
 simp only [Option.bind_some]
 rw [cf c hc 10]
 simp only [Option.bind_some]
 rw [cf c hc 11]
 simp only [Option.bind_some]
 rw [cf c hc 12]
 simp only [Option.bind_some]
 rw [cf b hb 8]
 simp only [Option.bind_some]
 rw [cf b hb 9]
 simp only [Option.bind_some]
 rw [cf b hb 10]
 simp only [Option.bind_some]
 rw [cf b hb 11]
 simp only [Option.bind_some]
 rw [cf b hb 12]
 simp only [Option.bind_some]
 rfl
def wrC (c : C) (r v : Int) : C × Int :=
 if r = 8 then ((v % 64, c.2.1, c.2.2.1, c.2.2.2.1, c.2.2.2.2.1, c.2.2.2.2.2), 0) else
 if r = 9 then ((c.1, v % 64, c.2.2.1, c.2.2.2.1, c.2.2.2.2.1, c.2.2.2.2.2), 0) else
 if r = 10 then ((c.1, c.2.1, v % 32, c.2.2.2.1, c.2.2.2.2.1, c.2.2.2.2.2), 0) else
 if r = 11 then ((c.1, c.2.1, c.2.2.1, c.2.2.2.1 / 256 * 256 + v, c.2.2.2.2.1, c.2.2.2.2.2), 0) else
 if r = 12 then ((c.1, c.2.1, c.2.2.1, c.2.2.2.1 % 256 + v % 2 * 256, v / 64 % 2 == 1, decide (128 ≤ v)), 0) else
 ((0, 0, 0, 0, false, false), 7)
def fl2 (x : C × Int) : Int × Int × Int × Int × Bool × Bool × Int := (x.1.1, x.1.2.1, x.1.2.2.1, x.1.2.2.2.1, x.1.2.2.2.2.1, x.1.2.2.2.2.2, x.2)
theorem v_all : ∀ v : Fin 256, Go.bits .and .u8 (v.val : Int) 1 = (v.val : Int) % 2 ∧ (Go.bits .and .u8 (v.val : Int) 64 != 0) = ((v.val : Int) / 64 % 2 == 1) ∧ (Go.bits .and .u8 (v.val : Int) 128 != 0) = decide (128 ≤ (v.val : Int)) := by decide +kernel
theorem d_all : ∀ (v : Fin 512), Go.bits .and .u16 (v.val : Int) 256 = (v.val : Int) / 256 * 256 ∧ Go.bits .or .u16 (Go.bits .and .u16 (v.val : Int) 255) 0 = (v.val : Int) % 256 ∧ Go.bits .or .u16 (Go.bits .and .u16 (v.val : Int) 255) 256 = (v.val : Int) % 256 + 256 := by decide +kernel
theorem d_fin {d : Int} (h : 0 ≤ d ∧ d ≤ 511) : ∃ v : Fin 512, d = (v.val : Int) := ⟨⟨d.toNat, by omega⟩, by show d = (d.toNat : Int); omega⟩
theorem w16 {x : Int} (h : 0 ≤ x ∧ x ≤ 65535) : IntKind.u16.wrap x = x := by rw [IntKind.wrap_u16]; omega
theorem wrC_ok {c : C} (h : okC c) {v : Int} (hv : 0 ≤ v ∧ v ≤ 255) (r : Int) : okC (wrC c r v).1 := by
 obtain ⟨s, m, hh, d, ht, cy⟩ := c
 unfold okC at h; dsimp only at h
 unfold wrC
 split
 ·unfold okC; dsimp only; omega
 split
 ·unfold okC; dsimp only; omega
 split
 ·unfold okC; dsimp only; omega
 split
 ·unfold okC; dsimp only; omega
 split
 ·unfold okC; dsimp only; omega
 ·unfold okC; dsimp only; omega
theorem write_prog (c : C) (h : wide c) (r v : Int) (hv : 0 ≤ v ∧ v ≤ 255) : av.f c.1 c.2.1 c.2.2.1 c.2.2.2.1 c.2.2.2.2.1 c.2.2.2.2.2 r v = some (fl2 (wrC (nm c) r v)) := by
 unfold av.f
 rw [cz c h]
 have hn := nm_ok c
 generalize nm c = e at hn
 obtain ⟨s, m, hh, d, ht, cy⟩ := e
 have hk := hn
 unfold okC at hn; dsimp only at hn
 obtain ⟨b1, b2, b3, b4⟩ := hn
 simp only [Option.bind_some]
 unfold wrC
 obtain ⟨y1, y2, y3⟩ := v_all ⟨v.toNat, by omega⟩
 have ev : ((⟨v.toNat, by omega⟩ : Fin 256).val : Int) = v := by show (v.toNat : Int) = v; omega
 rw [ev] at y1 y2 y3
 have n := fun (c : C) (h : okC c) => cz c h.wide
 by_cases c8 : r = 8
 ·rw [if_pos c8, if_pos c8]
  have e1 := cz (v, m, hh, d, ht, cy) ⟨hv, by dsimp only; omega, by dsimp only; omega, by dsimp only; omega⟩
  dsimp only at e1
  rw [e1]
  simp only [Option.bind_some, nm, fl2]
  rw [show m % 64 = m by omega, show hh % 32 = hh by omega, show d % 512 = d by omega]
 rw [if_neg c8, if_neg c8]
 by_cases c9 : r = 9
 ·rw [if_pos c9, if_pos c9]
  have e1 := cz (s, v, hh, d, ht, cy) ⟨by dsimp only; omega, hv, by dsimp only; omega, by dsimp only; omega⟩
  dsimp only at e1
  rw [e1]
  simp only [Option.bind_some, nm, fl2]
  rw [show s % 64 = s by omega, show hh % 32 = hh by omega, show d % 512 = d by omega]
 rw [if_neg c9, if_neg c9]
 by_cases c10 : r = 10
 ·rw [if_pos c10, if_pos c10]
  have e1 := cz (s, m, v, d, ht, cy) ⟨by dsimp only; omega, by dsimp only; omega, hv, by dsimp only; omega⟩
  dsimp only at e1
  rw [e1]
  simp only [Option.bind_some, nm, fl2]
  rw [show s % 64 = s by omega, show m % 64 = m by omega, show d % 512 = d by omega]
 rw [if_neg c10, if_neg c10]
 by_cases c11 : r = 11
 ·rw [if_pos c11, if_pos c11]
  obtain ⟨dv, rfl⟩ := d_fin b4
  rw [(d_all dv).1, w16 (x := v) (by omega), u16_or256 _ _ (by omega) hv.1 (by omega) (by omega)]
  have e1 := cz (s, m, hh, (dv.val : Int) / 256 * 256 + v, ht, cy) ⟨by dsimp only; omega, by dsimp only; omega, by dsimp only; omega, by dsimp only; omega⟩
  dsimp only at e1
  rw [e1]
  simp only [Option.bind_some, nm, fl2]
  rw [show s % 64 = s by omega, show m % 64 = m by omega, show hh % 32 = hh by omega, show ((dv.val : Int) / 256 * 256 + v) % 512 = (dv.val : Int) / 256 * 256 + v by omega]
 rw [if_neg c11, if_neg c11]
 by_cases c12 : r = 12
 ·rw [if_pos c12, if_pos c12, y1, y2, y3]
  obtain ⟨dv, rfl⟩ := d_fin b4
  have ed : Go.bits .or .u16 (Go.bits .and .u16 (dv.val : Int) 255) (IntKind.u16.wrap (IntKind.u16.wrap (v % 2) * 256)) = (dv.val : Int) % 256 + v % 2 * 256 := by
   rw [w16 (x := v % 2) (by omega), w16 (x := v % 2 * 256) (by omega)]
   have hv2 : v % 2 = 0 ∨ v % 2 = 1 := by omega
   rcases hv2 with e | e
   ·rw [e, show (0 : Int) * 256 = 0 from rfl, (d_all dv).2.1]; omega
   ·rw [e, show (1 : Int) * 256 = 256 from rfl, (d_all dv).2.2]
  rw [ed]
  have e1 := cz (s, m, hh, (dv.val : Int) % 256 + v % 2 * 256, v / 64 % 2 == 1, decide (128 ≤ v)) ⟨by dsimp only; omega, by dsimp only; omega, by dsimp only; omega, by dsimp only; omega⟩
  dsimp only at e1
  rw [e1]
  simp only [Option.bind_some, nm, fl2]
  rw [show s % 64 = s by omega, show m % 64 = m by omega, show hh % 32 = hh by omega, show ((dv.val : Int) % 256 + v % 2 * 256) % 512 = (dv.val : Int) % 256 + v % 2 * 256 by omega]
 rw [if_neg c12, if_neg c12]
 rfl
theorem write_ok (c : C) (h : okC c) (r v : Int) (hv : 0 ≤ v ∧ v ≤ 255) : av.f c.1 c.2.1 c.2.2.1 c.2.2.2.1 c.2.2.2.2.1 c.2.2.2.2.2 r v = some (fl2 (wrC c r v)) := by
 have := write_prog c h.wide r v hv
 rwa [nm_of h] at this
def of5 (a b c d e : Int) : C := (a % 64, b % 64, c % 32, d + e % 2 * 256, e / 64 % 2 == 1, decide (128 ≤ e))
theorem of5_ok (a b c d e : Int) (hd : 0 ≤ d ∧ d ≤ 255) : okC (of5 a b c d e) := by
 unfold okC of5; dsimp only; omega
theorem writes5 (a b c d e : Int) (ha : 0 ≤ a ∧ a ≤ 255) (hb : 0 ≤ b ∧ b ≤ 255) (hc : 0 ≤ c ∧ c ≤ 255) (hd : 0 ≤ d ∧ d ≤ 255) (he : 0 ≤ e ∧ e ≤ 255) :
  av.f 0 0 0 0 false false 8 a = some (a % 64, 0, 0, 0, false, false, 0) ∧
  av.f (a % 64) 0 0 0 false false 9 b = some (a % 64, b % 64, 0, 0, false, false, 0) ∧
  av.f (a % 64) (b % 64) 0 0 false false 10 c = some (a % 64, b % 64, c % 32, 0, false, false, 0) ∧
  av.f (a % 64) (b % 64) (c % 32) 0 false false 11 d = some (a % 64, b % 64, c % 32, d, false, false, 0) ∧
  av.f (a % 64) (b % 64) (c % 32) d false false 12 e = some (a % 64, b % 64, c % 32, d + e % 2 * 256, e / 64 % 2 == 1, decide (128 ≤ e), 0) := by
 refine ⟨?_, ?_, ?_, ?_, ?_⟩
 ·have := write_ok (0, 0, 0, 0, false, false) (by unfold okC; dsimp only; omega) 8 a ha
  simpa [wrC, fl2] using this
 ·have := write_ok (a % 64, 0, 0, 0, false, false) (by unfold okC; dsimp only; omega) 9 b hb
  simpa [wrC, fl2] using this
 ·have := write_ok (a % 64, b % 64, 0, 0, false, false) (by unfold okC; dsimp only; omega) 10 c hc
  simpa [wrC, fl2] using this
 ·have := write_ok (a % 64, b % 64, c % 32, 0, false, false) (by unfold okC; dsimp only; omega) 11 d hd
  simpa [wrC, fl2] using this
 ·have := write_ok (a % 64, b % 64, c % 32, d, false, false) (by unfold okC; dsimp only; omega) 12 e he
  have ed : d % 256 = d := by omega
  simpa [wrC, fl2, ed] using this
theorem high5 : ∀ v : Fin 256, (Go.bits .or .u8 (Go.bits .or .u8 ((v.val : Int) % 2 % 256) (if ((v.val : Int) / 64 % 2 == 1) = true then 64 else 0)) (if decide (128 ≤ (v.val : Int)) = true then 128 else 0) = (v.val : Int)) ↔ (v.val : Int) % 64 ≤ 1 := by decide +kernel
theorem five_is (a b c d e : Int) (hd : 0 ≤ d ∧ d ≤ 255) : five (of5 a b c d e) = [a % 64, b % 64, c % 32, d, Go.bits .or .u8 (Go.bits .or .u8 (e % 2 % 256) (if (e / 64 % 2 == 1) = true then 64 else 0)) (if decide (128 ≤ e) = true then 128 else 0)] := by
 unfold five
 rw [nm_of (of5_ok a b c d e hd)]
 unfold rdC of5
 dsimp only
 simp only [if_true]
 rw [if_neg (by decide), if_neg (by decide), if_neg (by decide), if_neg (by decide), if_neg (by decide), if_neg (by decide), if_neg (by decide), if_neg (by decide), if_neg (by decide), if_neg (by decide)]
 simp only [if_true]
 rw [show (d + e % 2 * 256) % 256 = d by omega, show (d + e % 2 * 256) / 256 = e % 2 by omega]
theorem five_again (a b c d e : Int) (ha : 0 ≤ a ∧ a ≤ 255) (hb : 0 ≤ b ∧ b ≤ 255) (hc : 0 ≤ c ∧ c ≤ 255) (hd : 0 ≤ d ∧ d ≤ 255) (he : 0 ≤ e ∧ e ≤ 255) :
  five (of5 a b c d e) = [a, b, c, d, e] ↔ (a ≤ 63 ∧ b ≤ 63 ∧ c ≤ 31 ∧ e % 64 ≤ 1) := by
 rw [five_is a b c d e hd]
 obtain ⟨v, rfl⟩ := byte_fin he
 have hv := high5 v
 generalize Go.bits .or .u8 (Go.bits .or .u8 ((v.val : Int) % 2 % 256) (if ((v.val : Int) / 64 % 2 == 1) = true then 64 else 0)) (if decide (128 ≤ (v.val : Int)) = true then 128 else 0) = x at hv ⊢
 simp only [List.cons.injEq, and_true]
 constructor
 ·rintro ⟨h1, h2, h3, _, h5⟩
  exact ⟨by omega, by omega, by omega, hv.mp h5⟩
 ·rintro ⟨h1, h2, h3, h4⟩
  exact ⟨by omega, by omega, by omega, trivial, hv.mpr h4⟩
theorem str10 (a0 a1 a2 a3 a4 a5 a6 a7 a8 a9 : Int) : (strOfNums [a0, a1, a2, a3, a4, a5, a6, a7, a8, a9]).toList = [UInt8.ofNat a0.toNat, UInt8.ofNat a1.toNat, UInt8.ofNat a2.toNat, UInt8.ofNat a3.toNat, UInt8.ofNat a4.toNat, UInt8.ofNat a5.toNat, UInt8.ofNat a6.toNat, UInt8.ofNat a7.toNat, UInt8.ofNat a8.toNat, UInt8.ofNat a9.toNat] := by
 simp [strOfNums, ByteArray.toList, ByteArray.toList.loop, ByteArray.size, ByteArray.get!]
theorem u8_inj {x y : Int} (hx : 0 ≤ x ∧ x ≤ 255) (hy : 0 ≤ y ∧ y ≤ 255) (h : UInt8.ofNat x.toNat = UInt8.ofNat y.toNat) : x = y := by
 have h1 := congrArg UInt8.toNat h
 rw [UInt8.toNat_ofNat', UInt8.toNat_ofNat'] at h1
 omega
theorem str10_eq (a0 a1 a2 a3 a4 a5 a6 a7 a8 a9 b0 b1 b2 b3 b4 b5 b6 b7 b8 b9 : Int) (p0 : 0 ≤ a0 ∧ a0 ≤ 255) (p1 : 0 ≤ a1 ∧ a1 ≤ 255) (p2 : 0 ≤ a2 ∧ a2 ≤ 255) (p3 : 0 ≤ a3 ∧ a3 ≤ 255) (p4 : 0 ≤ a4 ∧ a4 ≤ 255) (p5 : 0 ≤ a5 ∧ a5 ≤ 255) (p6 : 0 ≤ a6 ∧ a6 ≤ 255) (p7 : 0 ≤ a7 ∧ a7 ≤ 255) (p8 : 0 ≤ a8 ∧ a8 ≤ 255) (p9 : 0 ≤ a9 ∧ a9 ≤ 255) (q0 : 0 ≤ b0 ∧ b0 ≤ 255) (q1 : 0 ≤ b1 ∧ b1 ≤ 255) (q2 : 0 ≤ b2 ∧ b2 ≤ 255) (q3 : 0 ≤ b3 ∧ b3 ≤ 255) (q4 : 0 ≤ b4 ∧ b4 ≤ 255) (q5 : 0 ≤ b5 ∧ b5 ≤ 255) (q6 : 0 ≤ b6 ∧ b6 ≤ 255) (q7 : 0 ≤ b7 ∧ b7 ≤ 255) (q8 : 0 ≤ b8 ∧ b8 ≤ 255) (q9 : 0 ≤ b9 ∧ b9 ≤ 255) : ((strOfNums [a0, a1, a2, a3, a4, a5, a6, a7, a8, a9]).toList == (strOfNums [b0, b1, b2, b3, b4, b5, b6, b7, b8, b9]).toList) = true ↔ [a0, a1, a2, a3, a4, a5, a6, a7, a8, a9] = [b0, b1, b2, b3, b4, b5, b6, b7, b8, b9] := by
 rw [str10, str10, beq_iff_eq]
 constructor
 ·intro h
  simp only [List.cons.injEq, and_true] at h ⊢
  obtain ⟨h0, h1, h2, h3, h4, h5, h6, h7, h8, h9⟩ := h
  exact ⟨u8_inj p0 q0 h0, u8_inj p1 q1 h1, u8_inj p2 q2 h2, u8_inj p3 q3 h3, u8_inj p4 q4 h4, u8_inj p5 q5 h5, u8_inj p6 q6 h6, u8_inj p7 q7 h7, u8_inj p8 q8 h8, u8_inj p9 q9 h9⟩
 ·intro h
  simp only [List.cons.injEq, and_true] at h
  obtain ⟨rfl, rfl, rfl, rfl, rfl, rfl, rfl, rfl, rfl, rfl⟩ := h
  rfl
theorem high_bd : ∀ v : Fin 256, 0 ≤ (Go.bits .or .u8 (Go.bits .or .u8 ((v.val : Int) % 2 % 256) (if ((v.val : Int) / 64 % 2 == 1) = true then 64 else 0)) (if decide (128 ≤ (v.val : Int)) = true then 128 else 0)) ∧ (Go.bits .or .u8 (Go.bits .or .u8 ((v.val : Int) % 2 % 256) (if ((v.val : Int) / 64 % 2 == 1) = true then 64 else 0)) (if decide (128 ≤ (v.val : Int)) = true then 128 else 0)) ≤ 255 := by decide +kernel
theorem high_bd' (e : Int) (he : 0 ≤ e ∧ e ≤ 255) : 0 ≤ (Go.bits .or .u8 (Go.bits .or .u8 (e % 2 % 256) (if (e / 64 % 2 == 1) = true then 64 else 0)) (if decide (128 ≤ e) = true then 128 else 0)) ∧ (Go.bits .or .u8 (Go.bits .or .u8 (e % 2 % 256) (if (e / 64 % 2 == 1) = true then 64 else 0)) (if decide (128 ≤ e) = true then 128 else 0)) ≤ 255 := by
 obtain ⟨v, rfl⟩ := byte_fin he
 exact high_bd v
theorem cond_iff (b0 b1 b2 b3 b4 b5 b6 b7 b8 b9 : Int) (p0 : 0 ≤ b0 ∧ b0 ≤ 255) (p1 : 0 ≤ b1 ∧ b1 ≤ 255) (p2 : 0 ≤ b2 ∧ b2 ≤ 255) (p3 : 0 ≤ b3 ∧ b3 ≤ 255) (p4 : 0 ≤ b4 ∧ b4 ≤ 255) (p5 : 0 ≤ b5 ∧ b5 ≤ 255) (p6 : 0 ≤ b6 ∧ b6 ≤ 255) (p7 : 0 ≤ b7 ∧ b7 ≤ 255) (p8 : 0 ≤ b8 ∧ b8 ≤ 255) (p9 : 0 ≤ b9 ∧ b9 ≤ 255) : (((strOfNums (five (of5 b0 b1 b2 b3 b4) ++ five (of5 b5 b6 b7 b8 b9))).toList == (strOfNums [b0, b1, b2, b3, b4, b5, b6, b7, b8, b9]).toList) = true) ↔ ((b0 ≤ 63 ∧ b1 ≤ 63 ∧ b2 ≤ 31 ∧ b4 % 64 ≤ 1) ∧ (b5 ≤ 63 ∧ b6 ≤ 63 ∧ b7 ≤ 31 ∧ b9 % 64 ≤ 1)) := by
 have f1 := five_again b0 b1 b2 b3 b4 p0 p1 p2 p3 p4
 have f2 := five_again b5 b6 b7 b8 b9 p5 p6 p7 p8 p9
 rw [← f1, ← f2, five_is b0 b1 b2 b3 b4 p3, five_is b5 b6 b7 b8 b9 p8]
 have h4 := high_bd' b4 p4
 have h9 := high_bd' b9 p9
 generalize (Go.bits .or .u8 (Go.bits .or .u8 (b4 % 2 % 256) (if (b4 / 64 % 2 == 1) = true then 64 else 0)) (if decide (128 ≤ b4) = true then 128 else 0)) = x4 at h4 ⊢
 generalize (Go.bits .or .u8 (Go.bits .or .u8 (b9 % 2 % 256) (if (b9 / 64 % 2 == 1) = true then 64 else 0)) (if decide (128 ≤ b9) = true then 128 else 0)) = x9 at h9 ⊢
 have e := str10_eq (b0 % 64) (b1 % 64) (b2 % 32) b3 x4 (b5 % 64) (b6 % 64) (b7 % 32) b8 x9 b0 b1 b2 b3 b4 b5 b6 b7 b8 b9 (by omega) (by omega) (by omega) p3 h4 (by omega) (by omega) (by omega) p8 h9 p0 p1 p2 p3 p4 p5 p6 p7 p8 p9
 refine e.trans ?_
 simp only [List.cons.injEq, and_true]
 constructor
 ·rintro ⟨q0, q1, q2, q3, q4, q5, q6, q7, q8, q9⟩
  exact ⟨⟨q0, q1, q2, q3, q4⟩, ⟨q5, q6, q7, q8, q9⟩⟩
 ·rintro ⟨⟨q0, q1, q2, q3, q4⟩, ⟨q5, q6, q7, q8, q9⟩⟩
  exact ⟨q0, q1, q2, q3, q4, q5, q6, q7, q8, q9⟩
theorem of_prog (b0 b1 b2 b3 b4 b5 b6 b7 b8 b9 : Int) (p0 : 0 ≤ b0 ∧ b0 ≤ 255) (p1 : 0 ≤ b1 ∧ b1 ≤ 255) (p2 : 0 ≤ b2 ∧ b2 ≤ 255) (p3 : 0 ≤ b3 ∧ b3 ≤ 255) (p4 : 0 ≤ b4 ∧ b4 ≤ 255) (p5 : 0 ≤ b5 ∧ b5 ≤ 255) (p6 : 0 ≤ b6 ∧ b6 ≤ 255) (p7 : 0 ≤ b7 ∧ b7 ≤ 255) (p8 : 0 ≤ b8 ∧ b8 ≤ 255) (p9 : 0 ≤ b9 ∧ b9 ≤ 255) : bQ.f [b0, b1, b2, b3, b4, b5, b6, b7, b8, b9] = if (b0 ≤ 63 ∧ b1 ≤ 63 ∧ b2 ≤ 31 ∧ b4 % 64 ≤ 1) ∧ (b5 ≤ 63 ∧ b6 ≤ 63 ∧ b7 ≤ 31 ∧ b9 % 64 ≤ 1) then some ((of5 b0 b1 b2 b3 b4).1, (of5 b0 b1 b2 b3 b4).2.1, (of5 b0 b1 b2 b3 b4).2.2.1, (of5 b0 b1 b2 b3 b4).2.2.2.1, (of5 b0 b1 b2 b3 b4).2.2.2.2.1, (of5 b0 b1 b2 b3 b4).2.2.2.2.2, (of5 b5 b6 b7 b8 b9).1, (of5 b5 b6 b7 b8 b9).2.1, (of5 b5 b6 b7 b8 b9).2.2.1, (of5 b5 b6 b7 b8 b9).2.2.2.1, (of5 b5 b6 b7 b8 b9).2.2.2.2.1, (of5 b5 b6 b7 b8 b9).2.2.2.2.2, 0) else some (0, 0, 0, 0, false, false, 0, 0, 0, 0, false, false, 6) := by
 obtain ⟨x0, x1, x2, x3, x4⟩ := writes5 b0 b1 b2 b3 b4 p0 p1 p2 p3 p4
 obtain ⟨y0, y1, y2, y3, y4⟩ := writes5 b5 b6 b7 b8 b9 p5 p6 p7 p8 p9
 have hB : bp.f (b0 % 64) (b1 % 64) (b2 % 32) (b3 + b4 % 2 * 256) (b4 / 64 % 2 == 1) (decide (128 ≤ b4)) (b5 % 64) (b6 % 64) (b7 % 32) (b8 + b9 % 2 * 256) (b9 / 64 % 2 == 1) (decide (128 ≤ b9)) = some (five (of5 b0 b1 b2 b3 b4) ++ five (of5 b5 b6 b7 b8 b9)) := bytes_prog (of5 b0 b1 b2 b3 b4) (of5 b5 b6 b7 b8 b9) (of5_ok b0 b1 b2 b3 b4 p3).wide (of5_ok b5 b6 b7 b8 b9 p8).wide
 have hC := cond_iff b0 b1 b2 b3 b4 b5 b6 b7 b8 b9 p0 p1 p2 p3 p4 p5 p6 p7 p8 p9
 unfold bQ.f
 rw [if_pos (show (([b0, b1, b2, b3, b4, b5, b6, b7, b8, b9] : List Int).length : Int) = 10 from rfl), show rd [b0, b1, b2, b3, b4, b5, b6, b7, b8, b9] 0 = b0 from rfl, show rd [b0, b1, b2, b3, b4, b5, b6, b7, b8, b9] 1 = b1 from rfl, show rd [b0, b1, b2, b3, b4, b5, b6, b7, b8, b9] 2 = b2 from rfl, show rd [b0, b1, b2, b3, b4, b5, b6, b7, b8, b9] 3 = b3 from rfl, show rd [b0, b1, b2, b3, b4, b5, b6, b7, b8, b9] 4 = b4 from rfl, show rd [b0, b1, b2, b3, b4, b5, b6, b7, b8, b9] 5 = b5 from rfl, show rd [b0, b1, b2, b3, b4, b5, b6, b7, b8, b9] 6 = b6 from rfl, show rd [b0, b1, b2, b3, b4, b5, b6, b7, b8, b9] 7 = b7 from rfl, show rd [b0, b1, b2, b3, b4, b5, b6, b7, b8, b9] 8 = b8 from rfl, show rd [b0, b1, b2, b3, b4, b5, b6, b7, b8, b9] 9 = b9 from rfl]
 rw [x0]
 simp only [Option.bind_some]
 rw [x1]
 simp only [Option.bind_some]
 rw [x2]
 simp only [Option.bind_some]
 rw [x3]
 simp only [Option.bind_some]
 rw [x4]
 simp only [Option.bind_some]
 rw [y0]
 simp only [Option.bind_some]
 rw [y1]
 simp only [Option.bind_some]
 rw [y2]
 simp only [Option.bind_some]
 rw [y3]
 simp only [Option.bind_some]
 rw [y4]
 simp only [Option.bind_some]
 rw [hB]
 simp only [Option.bind_some]
 by_cases hk : (b0 ≤ 63 ∧ b1 ≤ 63 ∧ b2 ≤ 31 ∧ b4 % 64 ≤ 1) ∧ (b5 ≤ 63 ∧ b6 ≤ 63 ∧ b7 ≤ 31 ∧ b9 % 64 ≤ 1)
 ·rw [if_pos (hC.mpr hk), if_pos hk]
  rfl
 ·rw [if_neg (fun z => hk (hC.mp z)), if_neg hk]
def highOf (d : Int) (a b : Bool) : Int := Go.bits .or .u8 (Go.bits .or .u8 ((d / 256) % 256) (if a = true then 64 else 0)) (if b = true then 128 else 0)
theorem high_facts : ∀ (v : Fin 512) (a b : Bool), 0 ≤ highOf (v.val : Int) a b ∧ highOf (v.val : Int) a b ≤ 255 ∧ highOf (v.val : Int) a b % 64 ≤ 1 ∧ highOf (v.val : Int) a b % 2 = (v.val : Int) / 256 ∧ (highOf (v.val : Int) a b / 64 % 2 == 1) = a ∧ decide (128 ≤ highOf (v.val : Int) a b) = b := by decide +kernel
theorem rdC_bd (a : C) (ha : okC a) (k : Int) : 0 ≤ (rdC a k).1 ∧ (rdC a k).1 ≤ 255 := by
 obtain ⟨s, m, hh, d, h, c⟩ := a
 unfold okC at ha; dsimp only at ha
 obtain ⟨b1, b2, b3, b4⟩ := ha
 obtain ⟨u, rfl⟩ := d_fin b4
 obtain ⟨f0, f1, _⟩ := high_facts u h c
 unfold highOf at f0 f1
 unfold rdC; dsimp only
 split
 ·dsimp only; omega
 split
 ·dsimp only; omega
 split
 ·dsimp only; omega
 split
 ·dsimp only; omega
 split
 ·exact ⟨f0, f1⟩
 ·dsimp only; omega
end Go.Proofs.Ytmjjojbedllmgaa.Pure
end
namespace Go.Proofs.Ytmjjojbedllmgaa.G
def bY.f (a0 : Int) (a1 : Int) (a2 : Int) : Option (Int) := if a0 = a1 then (some 0) else (if a2 = 0 then (none) else (some (((a0 + 1) % 256) % a2)))
theorem bY.calls (a0 : Int) (a1 : Int) (a2 : Int) (r : Int) (w : World) (h : bY.f a0 a1 a2 = some r) :
  Calls Try.prog 75 #[.int .u8 a0, .int .u8 a1, .int .u8 a2] w fun e w' => e = .returned (.int .u8 r) ∧ aM w w' := by
 have H : (if a0 = a1 then (some 0) else (if a2 = 0 then (none) else (some (((a0 + 1) % 256) % a2)))) = some r := h
 clear h
 by_cases c4 : a0 = a1
 ·rw [if_pos c4] at H
  have c4b0 : (a0 == a1) = true := beq_iff_eq.mpr c4
  have c4b1 : (a0 != a1) = false := bne_eq_false_iff_eq.mpr c4
  clear c4
  obtain rfl := Option.some.inj H
  go_enter Try.func75, Try.ntmps75
  go_wp2
  go_ret
  exact ⟨by first | rfl | (simp; done) | (simp [*]; done), by repeat (first | exact aM.refl _ | apply aM.step)⟩
 ·rw [if_neg c4] at H
  have c4b0 : (a0 == a1) = false := beq_eq_false_iff_ne.mpr c4
  have c4b1 : (a0 != a1) = true := bne_iff_ne.mpr c4
  by_cases c5 : a2 = 0
  ·rw [if_pos c5] at H
   exact absurd H (by simp)
  ·rw [if_neg c5] at H
   have c5b0 : (a2 == 0) = false := beq_eq_false_iff_ne.mpr c5
   have c5b1 : (a2 != 0) = true := bne_iff_ne.mpr c5
   obtain rfl := Option.some.inj H
   go_enter Try.func75, Try.ntmps75
   go_wp2
   go_ret
   exact ⟨by first | rfl | (simp; done) | (simp [*]; done), by repeat (first | exact aM.refl _ | apply aM.step)⟩
def bl.f (a0_0 : Int) (a0_1 : Int) (a0_2 : Int) (a0_3 : Int) (a0_4 : Bool) (a0_5 : Bool) (a1 : Int) : Option (Int × Int) := (bi.f a0_0 a0_1 a0_2 a0_3 a0_4 a0_5).bind fun bt241 => (if a1 = 8 then (some (bt241.1, 0)) else (if a1 = 9 then (some (bt241.2.1, 0)) else (if a1 = 10 then (some (bt241.2.2.1, 0)) else (if a1 = 11 then (some ((Int.tmod bt241.2.2.2.1 256) % 256, 0)) else (if a1 = 12 then (if bt241.2.2.2.2.1 = true then (if bt241.2.2.2.2.2 = true then (some ((((((IntKind.u16.wrap (Int.tdiv bt241.2.2.2.1 256)) % 256) + 64) % 256) + 128) % 256, 0)) else (some ((((IntKind.u16.wrap (Int.tdiv bt241.2.2.2.1 256)) % 256) + 64) % 256, 0))) else (if bt241.2.2.2.2.2 = true then (some ((((IntKind.u16.wrap (Int.tdiv bt241.2.2.2.1 256)) % 256) + 128) % 256, 0)) else (some ((IntKind.u16.wrap (Int.tdiv bt241.2.2.2.1 256)) % 256, 0)))) else (some (0, 7)))))))
theorem bl.calls (a0_0 : Int) (a0_1 : Int) (a0_2 : Int) (a0_3 : Int) (a0_4 : Bool) (a0_5 : Bool) (a1 : Int) (r1 : Int) (r2 : Int) (w : World) (h : bl.f a0_0 a0_1 a0_2 a0_3 a0_4 a0_5 a1 = some (r1, r2)) :
  Calls Try.prog 39 #[.agg #[.int .u8 a0_0, .int .u8 a0_1, .int .u8 a0_2, .int .u16 a0_3, .bool a0_4, .bool a0_5], .int .i64 a1] w fun e w' => e = .returned (.tuple #[.int .u8 r1, .int .i64 r2]) ∧ Below w.heap.size w w' := by
 have hu34 := Try.underlying34
 have HB := ab.mk (Below.refl w.heap.size w)
 have H : ((bi.f a0_0 a0_1 a0_2 a0_3 a0_4 a0_5).bind fun bt241 => (if a1 = 8 then (some (bt241.1, 0)) else (if a1 = 9 then (some (bt241.2.1, 0)) else (if a1 = 10 then (some (bt241.2.2.1, 0)) else (if a1 = 11 then (some ((Int.tmod bt241.2.2.2.1 256) % 256, 0)) else (if a1 = 12 then (if bt241.2.2.2.2.1 = true then (if bt241.2.2.2.2.2 = true then (some ((((((IntKind.u16.wrap (Int.tdiv bt241.2.2.2.1 256)) % 256) + 64) % 256) + 128) % 256, 0)) else (some ((((IntKind.u16.wrap (Int.tdiv bt241.2.2.2.1 256)) % 256) + 64) % 256, 0))) else (if bt241.2.2.2.2.2 = true then (some ((((IntKind.u16.wrap (Int.tdiv bt241.2.2.2.1 256)) % 256) + 128) % 256, 0)) else (some ((IntKind.u16.wrap (Int.tdiv bt241.2.2.2.1 256)) % 256, 0)))) else (some (0, 7)))))))) = some (r1, r2) := h
 clear h
 replace H := Option.bind_eq_some_iff.mp H
 obtain ⟨⟨t241, t242, t243, t244, t245, t246⟩, A30, H⟩ := H
 replace H : (if a1 = 8 then (some (t241, 0)) else (if a1 = 9 then (some (t242, 0)) else (if a1 = 10 then (some (t243, 0)) else (if a1 = 11 then (some ((Int.tmod t244 256) % 256, 0)) else (if a1 = 12 then (if t245 = true then (if t246 = true then (some ((((((IntKind.u16.wrap (Int.tdiv t244 256)) % 256) + 64) % 256) + 128) % 256, 0)) else (some ((((IntKind.u16.wrap (Int.tdiv t244 256)) % 256) + 64) % 256, 0))) else (if t246 = true then (some ((((IntKind.u16.wrap (Int.tdiv t244 256)) % 256) + 128) % 256, 0)) else (some ((IntKind.u16.wrap (Int.tdiv t244 256)) % 256, 0)))) else (some (0, 7))))))) = some (r1, r2) := H
 have A3 := ab.mk A30
 clear A30
 by_cases c4 : a1 = 8
 case' _ =>
  rw [if_pos c4] at H
  have c4b0 : (a1 == 8) = true := beq_iff_eq.mpr c4
  have c4b1 : (a1 != 8) = false := bne_eq_false_iff_eq.mpr c4
  clear c4
  simp only [Option.some.injEq, Prod.mk.injEq] at H
  obtain ⟨rfl, rfl⟩ := H
 rotate_right
 case' _ =>
  rw [if_neg c4] at H
  have c4b0 : (a1 == 8) = false := beq_eq_false_iff_ne.mpr c4
  have c4b1 : (a1 != 8) = true := bne_iff_ne.mpr c4
  by_cases c11 : a1 = 9
  case' _ =>
   rw [if_pos c11] at H
   have c11b0 : (a1 == 9) = true := beq_iff_eq.mpr c11
   have c11b1 : (a1 != 9) = false := bne_eq_false_iff_eq.mpr c11
   clear c11
   simp only [Option.some.injEq, Prod.mk.injEq] at H
   obtain ⟨rfl, rfl⟩ := H
  rotate_right
  case' _ =>
   rw [if_neg c11] at H
   have c11b0 : (a1 == 9) = false := beq_eq_false_iff_ne.mpr c11
   have c11b1 : (a1 != 9) = true := bne_iff_ne.mpr c11
   by_cases c18 : a1 = 10
   case' _ =>
    rw [if_pos c18] at H
    have c18b0 : (a1 == 10) = true := beq_iff_eq.mpr c18
    have c18b1 : (a1 != 10) = false := bne_eq_false_iff_eq.mpr c18
    clear c18
    simp only [Option.some.injEq, Prod.mk.injEq] at H
    obtain ⟨rfl, rfl⟩ := H
   rotate_right
   case' _ =>
    rw [if_neg c18] at H
    have c18b0 : (a1 == 10) = false := beq_eq_false_iff_ne.mpr c18
    have c18b1 : (a1 != 10) = true := bne_iff_ne.mpr c18
    by_cases c25 : a1 = 11
    case' _ =>
     rw [if_pos c25] at H
     have c25b0 : (a1 == 11) = true := beq_iff_eq.mpr c25
     have c25b1 : (a1 != 11) = false := bne_eq_false_iff_eq.mpr c25
     clear c25
     simp only [Option.some.injEq, Prod.mk.injEq] at H
     obtain ⟨rfl, rfl⟩ := H
    rotate_right
    case' _ =>
     rw [if_neg c25] at H
     have c25b0 : (a1 == 11) = false := beq_eq_false_iff_ne.mpr c25
     have c25b1 : (a1 != 11) = true := bne_iff_ne.mpr c25
     by_cases c32 : a1 = 12
     case' _ =>
      rw [if_pos c32] at H
      have c32b0 : (a1 == 12) = true := beq_iff_eq.mpr c32
      have c32b1 : (a1 != 12) = false := bne_eq_false_iff_eq.mpr c32
      clear c32
      by_cases c33 : t245 = true
      case' _ =>
       subst c33
       have H1 : (if t246 = true then (some ((((((IntKind.u16.wrap (Int.tdiv t244 256)) % 256) + 64) % 256) + 128) % 256, 0)) else (some ((((IntKind.u16.wrap (Int.tdiv t244 256)) % 256) + 64) % 256, 0))) = some (r1, r2) := by rw [if_pos rfl] at H; exact H
       clear H
       have H := H1
       clear H1
       by_cases c34 : t246 = true
       case' _ =>
        subst c34
        have H1 : (some ((((((IntKind.u16.wrap (Int.tdiv t244 256)) % 256) + 64) % 256) + 128) % 256, 0)) = some (r1, r2) := by rw [if_pos rfl] at H; exact H
        clear H
        have H := H1
        clear H1
        simp only [Option.some.injEq, Prod.mk.injEq] at H
        obtain ⟨rfl, rfl⟩ := H
       rotate_right
       case' _ =>
        replace c34 := Bool.eq_false_iff.mpr c34
        subst c34
        have H1 : (some ((((IntKind.u16.wrap (Int.tdiv t244 256)) % 256) + 64) % 256, 0)) = some (r1, r2) := by rw [if_neg (show ¬ (false = true) by decide)] at H; exact H
        clear H
        have H := H1
        clear H1
        simp only [Option.some.injEq, Prod.mk.injEq] at H
        obtain ⟨rfl, rfl⟩ := H
      rotate_right
      case' _ =>
       replace c33 := Bool.eq_false_iff.mpr c33
       subst c33
       have H1 : (if t246 = true then (some ((((IntKind.u16.wrap (Int.tdiv t244 256)) % 256) + 128) % 256, 0)) else (some ((IntKind.u16.wrap (Int.tdiv t244 256)) % 256, 0))) = some (r1, r2) := by rw [if_neg (show ¬ (false = true) by decide)] at H; exact H
       clear H
       have H := H1
       clear H1
       by_cases c47 : t246 = true
       case' _ =>
        subst c47
        have H1 : (some ((((IntKind.u16.wrap (Int.tdiv t244 256)) % 256) + 128) % 256, 0)) = some (r1, r2) := by rw [if_pos rfl] at H; exact H
        clear H
        have H := H1
        clear H1
        simp only [Option.some.injEq, Prod.mk.injEq] at H
        obtain ⟨rfl, rfl⟩ := H
       rotate_right
       case' _ =>
        replace c47 := Bool.eq_false_iff.mpr c47
        subst c47
        have H1 : (some ((IntKind.u16.wrap (Int.tdiv t244 256)) % 256, 0)) = some (r1, r2) := by rw [if_neg (show ¬ (false = true) by decide)] at H; exact H
        clear H
        have H := H1
        clear H1
        simp only [Option.some.injEq, Prod.mk.injEq] at H
        obtain ⟨rfl, rfl⟩ := H
     rotate_right
     case' _ =>
      rw [if_neg c32] at H
      have c32b0 : (a1 == 12) = false := beq_eq_false_iff_ne.mpr c32
      have c32b1 : (a1 != 12) = true := bne_iff_ne.mpr c32
      simp only [Option.some.injEq, Prod.mk.injEq] at H
      obtain ⟨rfl, rfl⟩ := H
 all_goals
  go_enter Try.func39, Try.ntmps39
  go_wp2_with (first | ((with_reducible refine ar (N := 2) rfl ?_); refine bf ?hg (N := 2) ?hd (cs := #[.int .u8 a0_0, .int .u8 a0_1, .int .u8 a0_2, .int .u16 a0_3, .bool a0_4, .bool a0_5]) (t := 34) ?hr ?_; (case hd => rfl); (case hg => rfl); (case hr => first | (go_simp; done) | (go_simp; rfl)); intro gb240 hg w900 hbox hb; have n0_ := ab.mk (ak (by repeat (first | (with_reducible first | exact HB.out | apply ac | apply ai | apply aj) | exact HB.out)) hb); have n1_ := ab.mk (hbox); have n2_ := ab.mk ((by rw [hg]; exact (aw (by repeat (first | (with_reducible first | exact HB.out | apply ac | apply ai | apply aj) | exact HB.out))) : w.heap.size ≤ gb240)); have n3_ := ab.mk ((by rw [hg]; exact (aw (by repeat (first | (with_reducible first | exact HB.out | apply ac | apply ai | apply aj) | exact HB.out))) : w.heap.size ≤ gb240)); clear HB; have HB := n0_; have BK240 := n1_; have GW240 := n2_; have GE240 := n3_; clear n0_ n1_ n2_ n3_; clear hb hbox hg; have hcz901_0 : w900.cell? ⟨gb240, 0, none⟩ = some (.int .u8 a0_0) := (aa BK240.out 0).trans rfl; have hcz901_1 : w900.cell? ⟨gb240, 1, none⟩ = some (.int .u8 a0_1) := (aa BK240.out 1).trans rfl; have hcz901_2 : w900.cell? ⟨gb240, 2, none⟩ = some (.int .u8 a0_2) := (aa BK240.out 2).trans rfl; have hcz901_3 : w900.cell? ⟨gb240, 3, none⟩ = some (.int .u16 a0_3) := (aa BK240.out 3).trans rfl; have hcz901_4 : w900.cell? ⟨gb240, 4, none⟩ = some (.bool a0_4) := (aa BK240.out 4).trans rfl; have hcz901_5 : w900.cell? ⟨gb240, 5, none⟩ = some (.bool a0_5) := (aa BK240.out 5).trans rfl; have hfz901_0 := ae BK240.out 0; have hfz901_1 := ae BK240.out 1; have hfz901_2 := ae BK240.out 2; have hfz901_3 := ae BK240.out 3; have hfz901_4 := ae BK240.out 4; have hfz901_5 := ae BK240.out 5) | ((with_reducible refine cn (f := 72) rfl ?_); refine goesL_ (some 9) rfl rfl Try.func72 (by kernel_rfl) rfl #[.agg #[.int .u8 a0_0, .int .u8 a0_1, .int .u8 a0_2, .int .u16 a0_3, .bool a0_4, .bool a0_5]] rfl (by (try simp only [List.map_toArray, List.map_cons, List.map_nil]); first | done | rfl | (simp only [List.length_drop, List.length_take]; rfl)) ?_; (with_reducible refine (bi.calls _ _ _ _ _ _ _ _ _ _ _ _ _ A3.out).mono ?_); rintro e w902 ⟨rfl, hb⟩; refine ⟨_, rfl, ?_⟩; have n0_ := ab.mk (af (g := gb240) (o := .cells #[.int .u8 a0_0, .int .u8 a0_1, .int .u8 a0_2, .int .u16 a0_3, .bool a0_4, .bool a0_5] 34 (0, 0)) (by (with_reducible repeat (first | refine au ?_ _ | refine ap ?_ | refine ah ?_ _)); exact BK240.out) hb); have n1_ := ab.mk (ak (by repeat (first | (with_reducible first | exact HB.out | apply ac | apply ai | apply aj | refine ag ?_ GE240.out) | exact HB.out)) hb); clear BK240; clear HB; have BK240 := n0_; have HB := n1_; clear n0_ n1_; (try clear hb); (try clear hb2); (try clear hk); (try clear hi)) | ((with_reducible refine ar (N := 6) rfl ?_); refine bf ?hg (N := 6) ?hd (cs := #[.int .u8 0, .int .u8 0, .int .u8 0, .int .u16 0, .bool false, .bool false]) (t := 34) ?hr ?_; (case hd => rfl); (case hg => rfl); (case hr => first | (go_simp; done) | (go_simp; rfl)); intro gb247 hg w903 hbox hb; have n0_ := ab.mk (af (g := gb240) (o := .cells #[.int .u8 a0_0, .int .u8 a0_1, .int .u8 a0_2, .int .u16 a0_3, .bool a0_4, .bool a0_5] 34 (0, 0)) (by (with_reducible repeat (first | refine au ?_ _ | refine ap ?_ | refine ah ?_ _)); exact BK240.out) hb); have n1_ := ab.mk (ak (by repeat (first | (with_reducible first | exact HB.out | apply ac | apply ai | apply aj | refine ag ?_ GE240.out) | exact HB.out)) hb); have n2_ := ab.mk (hbox); have n3_ := ab.mk ((by rw [hg]; exact (aw (by repeat (first | (with_reducible first | exact HB.out | apply ac | apply ai | apply aj | refine ag ?_ GE240.out) | exact HB.out))) : w.heap.size ≤ gb247)); have n4_ := ab.mk ((by rw [hg]; exact (aw (by repeat (first | (with_reducible first | exact HB.out | apply ac | apply ai | apply aj | refine ag ?_ GE240.out) | exact HB.out))) : w.heap.size ≤ gb247)); have n5_ := ab.mk ((by rw [hg]; exact Nat.ne_of_lt (aZ (g := gb240) (o := .cells #[.int .u8 a0_0, .int .u8 a0_1, .int .u8 a0_2, .int .u16 a0_3, .bool a0_4, .bool a0_5] 34 (0, 0)) (by (with_reducible repeat (first | refine au ?_ _ | refine ap ?_ | refine ah ?_ _)); exact BK240.out)) : gb240 ≠ gb247)); have n6_ := ab.mk ((by rw [hg]; exact Nat.ne_of_gt (aZ (g := gb240) (o := .cells #[.int .u8 a0_0, .int .u8 a0_1, .int .u8 a0_2, .int .u16 a0_3, .bool a0_4, .bool a0_5] 34 (0, 0)) (by (with_reducible repeat (first | refine au ?_ _ | refine ap ?_ | refine ah ?_ _)); exact BK240.out)) : gb247 ≠ gb240)); clear BK240; clear HB; have BK240 := n0_; have HB := n1_; have BK247 := n2_; have GW247 := n3_; have GE247 := n4_; have NB240_247 := n5_; have NB247_240 := n6_; clear n0_ n1_ n2_ n3_ n4_ n5_ n6_; clear hb hbox hg; have hnb904 := NB247_240.out; have hnc904 := NB240_247.out; have hcz905_0 : w903.cell? ⟨gb247, 0, none⟩ = some (.int .u8 0) := (aa BK247.out 0).trans rfl; have hcz905_1 : w903.cell? ⟨gb247, 1, none⟩ = some (.int .u8 0) := (aa BK247.out 1).trans rfl; have hcz905_2 : w903.cell? ⟨gb247, 2, none⟩ = some (.int .u8 0) := (aa BK247.out 2).trans rfl; have hcz905_3 : w903.cell? ⟨gb247, 3, none⟩ = some (.int .u16 0) := (aa BK247.out 3).trans rfl; have hcz905_4 : w903.cell? ⟨gb247, 4, none⟩ = some (.bool false) := (aa BK247.out 4).trans rfl; have hcz905_5 : w903.cell? ⟨gb247, 5, none⟩ = some (.bool false) := (aa BK247.out 5).trans rfl; have hfz905_0 := ae BK247.out 0; have hfz905_1 := ae BK247.out 1; have hfz905_2 := ae BK247.out 2; have hfz905_3 := ae BK247.out 3; have hfz905_4 := ae BK247.out 4; have hfz905_5 := ae BK247.out 5))
  go_ret2
  exact ⟨by first | rfl | (simp [aE, aG] <;> rfl) | (simp [*, aE, aG] <;> rfl), by repeat (first | (with_reducible first | exact HB.out | apply ac | apply ai | apply aj | refine ag ?_ GE240.out | refine ag ?_ GE247.out) | exact HB.out)⟩
end Go.Proofs.Ytmjjojbedllmgaa.G
section
namespace Go.Proofs.Ytmjjojbedllmgaa.Pure
open Go.Proofs.Ytmjjojbedllmgaa.Hand
theorem norm_ref (c : C) (h : wide c) : bi.f c.1 c.2.1 c.2.2.1 c.2.2.2.1 c.2.2.2.2.1 c.2.2.2.2.2 = some (nm c) := by
 obtain ⟨h1, h2, h3, h4⟩ := h
 unfold bi.f nm
 rw [Int.tmod_eq_emod_of_nonneg h1.1, Int.tmod_eq_emod_of_nonneg h2.1, Int.tmod_eq_emod_of_nonneg h3.1, Int.tmod_eq_emod_of_nonneg h4.1]
theorem on_ref (v l p : Int) (hv : 0 ≤ v ∧ v < p) (hp : p = 64 ∨ p = 32) : bY.f v l p = some (if v = l then 0 else (v + 1) % p) := by
 unfold bY.f
 by_cases c : v = l
 ·rw [if_pos c, if_pos c]
 ·rw [if_neg c, if_neg c, if_neg (by omega)]
  rcases hp with rfl | rfl
  ·rw [show (v + 1) % 256 % 64 = (v + 1) % 64 by omega]
  ·rw [show (v + 1) % 256 % 32 = (v + 1) % 32 by omega]
theorem high_all : ∀ (v : Fin 512) (a b : Bool), Go.bits .or .u8 (Go.bits .or .u8 (((v.val : Int) / 256) % 256) (if a = true then 64 else 0)) (if b = true then 128 else 0) = (if a = true then (if b = true then ((((((IntKind.u16.wrap (Int.tdiv (v.val : Int) 256)) % 256) + 64) % 256) + 128) % 256) else (((IntKind.u16.wrap (Int.tdiv (v.val : Int) 256)) % 256) + 64) % 256) else (if b = true then ((((IntKind.u16.wrap (Int.tdiv (v.val : Int) 256)) % 256) + 128) % 256) else ((IntKind.u16.wrap (Int.tdiv (v.val : Int) 256)) % 256))) := by decide +kernel
theorem cq (c : C) (h : wide c) (r : Int) : bl.f c.1 c.2.1 c.2.2.1 c.2.2.2.1 c.2.2.2.2.1 c.2.2.2.2.2 r = some (rdC (nm c) r) := by
 unfold bl.f rdC
 rw [norm_ref c h]
 have hn := nm_ok c
 generalize nm c = e at hn
 obtain ⟨s, m, hh, d, ht, cy⟩ := e
 unfold okC at hn; dsimp only at hn
 obtain ⟨b1, b2, b3, b4⟩ := hn
 simp only [Option.bind_some]
 obtain ⟨v, rfl⟩ : ∃ v : Fin 512, d = (v.val : Int) := ⟨⟨d.toNat, by omega⟩, by show d = (d.toNat : Int); omega⟩
 rw [high_all v ht cy]
 split
 ·rfl
 split
 ·rfl
 split
 ·rfl
 split
 ·have e : Int.tmod (v.val : Int) 256 % 256 = (v.val : Int) % 256 := by rw [Int.tmod_eq_emod_of_nonneg b4.1]; omega
  rw [e]
 split
 ·cases ht <;> cases cy <;> rfl
 ·rfl
theorem write_ref (c : C) (h : wide c) (r v : Int) (hv : 0 ≤ v ∧ v ≤ 255) : bD.f c.1 c.2.1 c.2.2.1 c.2.2.2.1 c.2.2.2.2.1 c.2.2.2.2.2 r v = some (fl2 (wrC (nm c) r v)) := by
 have hd := h.2.2.2
 have hd2 : Int.tmod c.2.2.2.1 256 = (nm c).2.2.2.1 % 256 := by
  unfold nm; dsimp only
  rw [Int.tmod_eq_emod_of_nonneg hd.1]; omega
 unfold bD.f
 rw [norm_ref c h, hd2]
 have hn := nm_ok c
 generalize nm c = e at hn
 obtain ⟨s, m, hh, d, ht, cy⟩ := e
 unfold okC at hn; dsimp only at hn
 obtain ⟨b1, b2, b3, b4⟩ := hn
 simp only [Option.bind_some]
 unfold wrC
 by_cases c8 : r = 8
 ·rw [if_pos c8, if_pos c8, Int.tmod_eq_emod_of_nonneg hv.1]; rfl
 rw [if_neg c8, if_neg c8]
 by_cases c9 : r = 9
 ·rw [if_pos c9, if_pos c9, Int.tmod_eq_emod_of_nonneg hv.1]; rfl
 rw [if_neg c9, if_neg c9]
 by_cases c10 : r = 10
 ·rw [if_pos c10, if_pos c10, Int.tmod_eq_emod_of_nonneg hv.1]; rfl
 rw [if_neg c10, if_neg c10]
 by_cases c11 : r = 11
 ·rw [if_pos c11, if_pos c11, Int.tdiv_eq_ediv_of_nonneg b4.1]
  rw [w16 (x := d / 256) (by omega), w16 (x := d / 256 * 256) (by omega), w16 (x := v) (by omega), w16 (x := d / 256 * 256 + v) (by omega)]
  rfl
 rw [if_neg c11, if_neg c11]
 by_cases c12 : r = 12
 ·rw [if_pos c12, if_pos c12, Int.tmod_eq_emod_of_nonneg hv.1, Int.tdiv_eq_ediv_of_nonneg hv.1]
  rw [w16 (x := v % 2) (by omega), w16 (x := v % 2 * 256) (by omega), w16 (x := d % 256 + v % 2 * 256) (by omega)]
  rfl
 rw [if_neg c12, if_neg c12]
 rfl
end Go.Proofs.Ytmjjojbedllmgaa.Pure
end
section
namespace Go.Proofs.Ytmjjojbedllmgaa.Pure
open Go.Proofs.Ytmjjojbedllmgaa.Hand
def ct (c : Ck) : C := (c.s, c.m, c.h, c.d, c.ht, c.cy)
structure Nm (s : Ct) : Prop where
 lv : okC (ct s.lv)
 hd : okC (ct s.hd)
theorem tick_ct (c : Ck) (h : okC (ct c)) : ct c.tick = tk (ct c) := by
 have q := tick_prog (ct c) h.wide
 rw [nm_of h] at q
 have e := c.tick_eq
 have q2 : cj.f c.s c.m c.h c.d c.ht c.cy = some (tk (ct c)) := q
 rw [q2] at e
 exact (Option.some.inj e).symm
theorem write_ct (c : Ck) (h : okC (ct c)) (n v : Int) (hv : 0 ≤ v ∧ v ≤ 255) : ct (c.write n v) = (wrC (ct c) n v).1 := by
 have q := write_prog (ct c) h.wide n v hv
 rw [nm_of h] at q
 have e := c.write_eq n v
 have q2 : av.f c.s c.m c.h c.d c.ht c.cy n v = some (fl2 (wrC (ct c) n v)) := q
 rw [q2] at e
 have e2 := Option.some.inj e
 simp only [fl2, Prod.mk.injEq] at e2
 obtain ⟨a1, a2, a3, a4, a5, a6, _⟩ := e2
 show ((c.write n v).s, (c.write n v).m, (c.write n v).h, (c.write n v).d, (c.write n v).ht, (c.write n v).cy) = _
 rw [← a1, ← a2, ← a3, ← a4, ← a5, ← a6]
theorem bytes_ct (s : Ct) (h : Nm s) : s.bytesL = five (ct s.lv) ++ five (ct s.hd) := by
 have q : s.bytes = some (five (ct s.lv) ++ five (ct s.hd)) := bytes_prog (ct s.lv) (ct s.hd) h.lv.wide h.hd.wide
 rw [Ct.bytesL, q]
 rfl
theorem of_facts {l : List Int} (hb : Bytes l) (hl : l.length = 10) (h0 : ofE l = 0) : okC (ct (ofX l)) ∧ okC (ct (ofY l)) ∧ five (ct (ofX l)) ++ five (ct (ofY l)) = l := by
 match l, hl with
 | [b0, b1, b2, b3, b4, b5, b6, b7, b8, b9], _ =>
  have p0 := hb b0 (by simp)
  have p1 := hb b1 (by simp)
  have p2 := hb b2 (by simp)
  have p3 := hb b3 (by simp)
  have p4 := hb b4 (by simp)
  have p5 := hb b5 (by simp)
  have p6 := hb b6 (by simp)
  have p7 := hb b7 (by simp)
  have p8 := hb b8 (by simp)
  have p9 := hb b9 (by simp)
  have q := of_prog b0 b1 b2 b3 b4 b5 b6 b7 b8 b9 p0 p1 p2 p3 p4 p5 p6 p7 p8 p9
  by_cases c : (b0 ≤ 63 ∧ b1 ≤ 63 ∧ b2 ≤ 31 ∧ b4 % 64 ≤ 1) ∧ (b5 ≤ 63 ∧ b6 ≤ 63 ∧ b7 ≤ 31 ∧ b9 % 64 ≤ 1)
  ·rw [if_pos c] at q
   have e1 : ct (ofX [b0, b1, b2, b3, b4, b5, b6, b7, b8, b9]) = of5 b0 b1 b2 b3 b4 := by rw [ofX, q]; rfl
   have e2 : ct (ofY [b0, b1, b2, b3, b4, b5, b6, b7, b8, b9]) = of5 b5 b6 b7 b8 b9 := by rw [ofY, q]; rfl
   rw [e1, e2, (five_again b0 b1 b2 b3 b4 p0 p1 p2 p3 p4).mpr c.1, (five_again b5 b6 b7 b8 b9 p5 p6 p7 p8 p9).mpr c.2]
   exact ⟨of5_ok b0 b1 b2 b3 b4 p3, of5_ok b5 b6 b7 b8 b9 p8, rfl⟩
  ·rw [if_neg c] at q
   have : ofE [b0, b1, b2, b3, b4, b5, b6, b7, b8, b9] = 6 := by rw [ofE, q]; rfl
   omega
theorem Nm.new {l : List Int} : Nm (newC l) := by
 have z : okC (0, 0, 0, 0, false, false) := by simp [okC]
 exact ⟨z, z⟩
theorem Nm.write {s : Ct} (h : Nm s) (ad v : Int) (hv : 0 ≤ v ∧ v ≤ 255) : Nm (s.write ad v) := by
 unfold Ct.write
 split
 ·split
  ·unfold Ct.latch
   split
   ·exact ⟨h.lv, h.lv⟩
   ·exact ⟨h.lv, h.hd⟩
  ·exact ⟨h.lv, h.hd⟩
 ·split
  ·refine ⟨?_, h.hd⟩
   show okC (ct (s.lv.write _ v))
   rw [write_ct _ h.lv _ _ hv]
   exact wrC_ok h.lv hv _
  ·split
   ·exact ⟨h.lv, h.hd⟩
   ·exact h
theorem Nm.tick {s : Ct} (h : Nm s) : Nm s.tick := by
 unfold Ct.tick
 split
 ·refine ⟨?_, h.hd⟩
  show okC (ct s.lv.tick)
  rw [tick_ct _ h.lv]
  exact tk_ok h.lv
 ·exact h
theorem bytes_drop {l : List Int} (h : Bytes l) (n : Nat) : Bytes (l.drop n) := fun x hx => h x (List.mem_of_mem_drop hx)
theorem load_zero {s : Ct} {l : List Int} (h : s.loadE l = 0) : s.hdr.bt = true ∧ ((s.hdr.ck = false ∧ l.length = s.ram.length) ∨ (s.hdr.ck = true ∧ l.length = s.ram.length + 10 ∧ ofE (l.drop s.ram.length) = 0)) := by
 unfold Ct.loadE at h
 cases hbt : s.hdr.bt with
 | false => rw [hbt] at h; simp at h
 | true =>
  rw [hbt] at h
  cases hck : s.hdr.ck with
  | false =>
   rw [hck] at h
   by_cases hn : l.length = s.ram.length
   ·exact ⟨rfl, Or.inl ⟨rfl, hn⟩⟩
   ·simp [hn] at h
  | true =>
   rw [hck] at h
   by_cases hn : l.length = s.ram.length + 10
   ·simp [hn] at h
    exact ⟨rfl, Or.inr ⟨rfl, hn, h⟩⟩
   ·simp [hn] at h
theorem Nm.load {s : Ct} (h : Nm s) {l : List Int} (hb : Bytes l) : Nm (s.loadS l) := by
 unfold Ct.loadS
 split
 ·rename_i h0
  obtain ⟨_, ⟨h1, h2⟩ | ⟨h1, h2, h3⟩⟩ := load_zero h0
  ·rw [if_neg (by simp [h1])]
   exact ⟨h.lv, h.hd⟩
  ·rw [if_pos h1]
   obtain ⟨q1, q2, _⟩ := of_facts (bytes_drop hb s.ram.length) (by simp; omega) h3
   exact ⟨q1, q2⟩
 ·exact h
theorem save_length (s : Ct) (hbt : s.hdr.bt = true) : s.saveL.length = s.ram.length + (if s.hdr.ck = true then 10 else 0) := by
 unfold Ct.saveL
 rw [if_pos hbt]
 split
 ·rw [List.length_append, (bytesL_is s).2]
 ·rfl
end Go.Proofs.Ytmjjojbedllmgaa.Pure
end
