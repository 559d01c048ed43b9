/- What the proof of the statement CartBack stands on, part 0. (Packed by pack.py out of this session's texts.) -/
import Derived.WalkKit
import Derived.ProofKit
import Derived.OpenShut
import Derived.ShutString
import Derived.ChangeOld
import Derived.Below
import Derived.Carry
import Derived.SizedLaws
import Derived.KernelRfl
import Derived.Lib.SmallJoins
import Derived.Deep.Draws
import Derived.Deep.AppendLies
import Derived.Maps.AppendAt
import Derived.OwnWalk
import Derived.Laws.BytesArg
import Derived.Laws.MakeOwn
import Derived.Laws.OwnMore
import Derived.Deep.OwnRows
import Derived.Tactics
import Derived.Lib.ConvBytes
import Derived.Laws.Slices
import Derived.RowKit3
import Derived.Deep.LoopGhost
import Derived.Deep.QuietTactic
import Derived.BigQuiet
import Derived.WideLaws
import Derived.Deep.DeepCutAuto
import Derived.Deep.CutBlock
import Derived.Deep.RegionHeld3
import Derived.Laws.Rows
import Derived.Lib.AppendStr
import Derived.ArgAppend
import Derived.Laws.IdiomCopy
import Derived.RowKit
import Derived.OrdersHeld
import Derived.Laws.BitsLemmas
import Derived.Laws.StructEq
import Derived.Test.YtmjjojbedllmgaaProg
import Derived.Deep.Slices
import Derived.Lib.BufferWrite
import Derived.Laws.AppendOwn
import Derived.Laws.CopyOwn
import Derived.Handy
import Derived.Defers
import Derived.Recover
import Derived.WalkLawsBesides
import Derived.Deep.MidRow
import Derived.BigRegion
import Derived.StillTailTactics
section
namespace Go.Proofs.Ytmjjojbedllmgaa.Frame
open Go.ChangeShapes Go.WideShapes Go.ChangeAt Go.RowKit
set_option linter.unusedVariables false
theorem trodAll_below {H : Type} {enc : TypeId × Value → H} {P : Program} (hl : laidOutB P = true) {W W' : World} (hb : Below W.heap.size W W') :
    ∀ {ts : List TypeId} {vs : List Value} {ds : List (DataW H)} {ps : List MemPlace}, (ts.all fun t => P.readableRec t && decide (t < P.types.size)) = true →
      DataW.TrodAll enc P W 0 (fun _ => true) true ts vs ds ps → DataW.TrodAll enc P W' 0 (fun b => decide (b < W.heap.size)) true ts vs ds ps
  | [], vs, ds, ps, _, h => by
    obtain ⟨rfl, rfl, rfl⟩ := trodAll_nil h
    exact trodAll_mk0
  | t :: ts, vs, ds, ps, ht, h => by
    obtain ⟨v, vs', d, ds', p, q, rfl, rfl, rfl, h0, r0⟩ := trodAll_cons h
    simp only [List.all_cons, Bool.and_eq_true, decide_eq_true_eq] at ht
    have lt0 : ∀ x ∈ p, x.block < W.heap.size := by obtain ⟨m, hm⟩ := h0; exact DataW.trod_lt m _ _ _ hm
    exact trodAll_cons_mk (Below.trod hl ht.1.1 ht.1.2 h0 hb lt0) (trodAll_below hl hb ht.2 r0)
theorem trodAll_length {H : Type} {enc : TypeId × Value → H} {P : Program} {W : World} {base : Nat} {sp : Nat → Bool} {held : Bool} :
    ∀ {ts : List TypeId} {vs : List Value} {ds : List (DataW H)} {ps : List MemPlace}, DataW.TrodAll enc P W base sp held ts vs ds ps → ds.length = ts.length ∧ vs.length = ts.length
  | [], vs, ds, ps, h => by
    obtain ⟨rfl, rfl, rfl⟩ := trodAll_nil h
    exact ⟨rfl, rfl⟩
  | t :: ts, vs, ds, ps, h => by
    obtain ⟨v, vs', d, ds', p, q, rfl, rfl, rfl, h0, r0⟩ := trodAll_cons h
    have := trodAll_length r0
    simp [this.1, this.2]
theorem lifted_of {C : Checked} {os : Os} {n : FuncId} {fn : Func} {s : ChangeSpec} {H : Type} {enc : TypeId × Value → H} {conds : List PathCond} {bt : TypeId}
    (own : ownKnob C.prog.godebug = none) (started : os.Started) (noInit : C.prog.inits.idxOf? n = none) (hfn : C.prog.funcs[n]? = some fn)
    (witness : ∃ (w : World) (tape : Tape) (i : Input), w.os = os ∧ (w.forCall tape i).Shaped C.prog ∧ i.vars = [] ∧ Input.okWide C.prog (w.forCall tape i) .any w.heap.size n i ∧
      s.pre6 enc C.prog fn conds false (w.forCall tape i).memory i.args ∧ ({} : Assume).holds C.prog (lone (Frame.enter C.prog n i.args .normal) [] (w.forCall tape i)))
    (hv : s.vars = []) (hrt : fn.resultTypes = #[bt]) (hbt : C.prog.underlying bt = some .bool)
    (hspec : ∀ ds : List (DataW H), ds.length = fn.params.toList.length → s.fn H (ds ++ []) = { results := [.lit (.bool true)], args := ds })
    (hl : laidOutB C.prog = true) (hread : (fn.params.toList.all fun t => C.prog.readableRec t && decide (t < C.prog.types.size)) = true)
    (walk : ∀ (W : World) (base : Nat) (vs : List Value) (ds : List (DataW H)) (p : List MemPlace),
      (∀ (j : Nat) (t : TypeId) (v : Value), fn.params.toList[j]? = some t → vs[j]? = some v → Value.okWide C.prog W .any base t v) →
      DataW.TrodAll enc C.prog W 0 (fun _ => true) true fn.params.toList vs ds p →
      (DataW.weightsEach C.prog fn.params.toList ds).all (· ≤ reachBytes) = true →
      Calls C.prog n ⟨vs⟩ W fun e w' => e = .returned (.bool true) ∧ Below W.heap.size W w') :
    ReturnsInHanded {} C os n .any (s.pre6 enc C.prog fn conds false) (s.post enc C.prog fn false true false false) := by
  refine returnsInHanded_of_change_sized (C := C) own started noInit hfn witness ?_
  intro W base args ds gs before hval0 hW hcnd hsz0 _
  have hW' := hW
  obtain ⟨p, q, hA, hV, rfl, hfz, hnd⟩ := hW
  rw [hv] at hV
  obtain ⟨rfl, rfl⟩ := trodVars_none hV
  have hlen := trodAll_length hA
  have hvt : s.plain.varTypes C.prog = [] := by
    have : s.plain.vars = [] := hv
    simp [DataSpec.varTypes, this]
  have hsz : (DataW.weightsEach C.prog fn.params.toList ds).all (· ≤ reachBytes) = true := by
    have := hsz0
    rw [hvt, List.append_nil, List.append_nil] at this
    exact this
  have hval : ∀ (j : Nat) (t : TypeId) (v : Value), fn.params.toList[j]? = some t → args.toList[j]? = some v → Value.okWide C.prog W .any base t v := by
    intro j t v h1 h2
    exact hval0 j t v (by simpa using h1) (by simpa using h2)
  refine (walk W base args.toList ds p hval hA hsz).mono fun e W' ⟨he, bel⟩ => ?_
  subst he
  have hs := hspec ds hlen.1
  refine ⟨_, rfl, ds, [], p ++ [], [], p, [], hW', ?_, ?_, ?_, bel.frame _, fun h => by cases h⟩
  · rw [hs, hrt]
    exact trodAll_mk1 (shut_bool hbt _)
  · rw [hs]
    exact trodAll_below hl bel hread hA
  · rw [hs, hv]
    rfl
section
variable {H : Type} {enc : TypeId × Value → H} {P : Program} {w : World} {base b0 : Nat} {spare : Nat → Bool} {held : Bool} {r : Reach}
theorem cell_int {t : TypeId} {k : IntKind} {c : Value} (ht : P.underlying t = some (.int k)) (h : ∃ (n : Nat) (y : DataW H × List MemPlace), DataW.trod enc P w base spare held n t [c] = some y) : ∃ x : Int, c = .int k x ∧ (Lit.int k x).wf = true := by
  obtain ⟨n, y, h⟩ := h
  obtain ⟨b, e, _, hw⟩ := DataW.trod_int ht h
  simp at e
  exact ⟨b, e, hw⟩
end
section
variable {α : Type} {cs : Array α}
end
end Go.Proofs.Ytmjjojbedllmgaa.Frame
end
section
set_option linter.unusedVariables false
set_option linter.unusedSimpArgs false
namespace Go.Proofs.YtmjjojbedllmgaaW.PrintWords
open Go.RowKit
structure Aside0 (p : Prop) : Prop where mk :: (out : p)
structure Drawn0 (w w' : World) : Prop where mk :: (out : ∃ n, w' = w.drewN n)
theorem Drawn0.refl (w : World) : Drawn0 w w := ⟨⟨0, rfl⟩⟩
theorem Drawn0.step {w w' : World} (h : Drawn0 w w') (n : Nat) : Drawn0 w (w'.drewN n) := by
  obtain ⟨m, rfl⟩ := h
  exact ⟨⟨m + n, World.drewN_drewN ..⟩⟩
def rd (xs : List Int) (i : Int) : Int := xs.getD i.toNat 0
def bt (s : ByteArray) (i : Int) : Int := if h : i.toNat < s.size then ((s[i.toNat]'h).toNat : Int) else 0
theorem bt_at (s : ByteArray) (i : Int) : ∀ h : i.toNat < s.size, ((s[i.toNat]'h).toNat : Int) = bt s i := fun h => by simp [bt, h]
def nums (k : IntKind) (xs : List Int) : List Value := xs.map fun x => .int k x
theorem below_alloc {w W : World} (h : Below w.heap.size w W) (o : Obj) : Below w.heap.size w (W.alloc o) := h.alloc h.size o
theorem below_drew {B : Nat} {w W : World} (h : Below B w W) : Below B w W.drew := ⟨h.os, h.tape, h.output, h.size, h.block⟩
theorem pw_below_drewN {B : Nat} {w W : World} (h : Below B w W) (n : Nat) : Below B w (W.drewN n) := ⟨h.os, h.tape, h.output, h.size, h.block⟩
theorem below_then {B : Nat} {w w1 w2 : World} (h : Below B w w1) (hB : B ≤ w1.heap.size) (k : Below w1.heap.size w1 w2) : Below B w w2 :=
  h.trans ⟨k.os, k.tape, k.output, k.size, fun i hi => k.block i (Nat.lt_of_lt_of_le hi hB)⟩
theorem pw_cell_below {w w1 : World} (h : Below w.heap.size w w1) {a : Addr} {v : Value} (hc : w.cell? a = some v) : w1.cell? a = some v := (h.cell (World.block_lt_of_cell? w a hc)).trans hc
def ReadsInt (w : World) (k : IntKind) (A : Option Addr) (n : Nat) (xs : List Int) : Prop :=
  xs.length = n ∧ n ≤ 9223372036854775807 ∧ (0 < n → ∃ ad, A = some ad ∧ ∀ j, j < n → w.cell? (ad.add j) = some (.int k (xs.getD j 0)))
theorem own_nil (W : World) (base : Nat) (e : TypeId) (size : Nat) : W.ownsRow base e size (.slice none 0 0) 0 [] := ⟨by simp, .inl ⟨rfl, rfl⟩⟩
theorem own_base {w : World} {base : Nat} {e : TypeId} {size n : Nat} {v : Value} {xs : List Value} (h : w.ownsRow base e size v n xs) (k : Nat) (hk : v.ownBlock = some k) : base ≤ k := by
  rcases h.2 with ⟨rfl, _⟩ | ⟨g, cap, cur, rfl, hb, _⟩
  · simp [Value.ownBlock] at hk
  · have : g = k := by simpa [Value.ownBlock] using hk
    omega
theorem own_lt {w : World} {base : Nat} {e : TypeId} {size n : Nat} {v : Value} {xs : List Value} (h : w.ownsRow base e size v n xs) (k : Nat) (hk : v.ownBlock = some k) : k < w.heap.size := by
  rcases h.2 with ⟨rfl, _⟩ | ⟨g, cap, cur, rfl, hb, hh, _⟩
  · simp [Value.ownBlock] at hk
  · have : g = k := by simpa [Value.ownBlock] using hk
    subst this
    exact (Array.getElem?_eq_some_iff.1 hh).1
theorem own_string {P : Program} {w : World} {base n : Nat} {e' src dst e : TypeId} {v : Value} {xs : List Int} (hs : P.underlying src = some (.slice e)) (he : P.underlying e = some (.int .u8)) (hd : P.underlying dst = some .string)
    (h : w.ownsRow base e' 1 v n (nums .u8 xs)) : (convert src dst v).run P w = .ok (.string (strOfNums xs)) w := by
  have hl : xs.length = n := by have := h.1; simp [nums] at this; exact this
  rcases h.2 with ⟨rfl, rfl⟩ | ⟨g, cap, cur, rfl, _⟩
  · obtain rfl : xs = [] := List.eq_nil_of_length_eq_zero hl
    exact run_convert_bytes_nil w src e hs he 0 0 dst hd
  · refine run_convert_bytes_arg w src e hs he g 0 n cap xs hl (fun i hi => ?_) dst hd
    have hc := h.cells (g := g) rfl i (.int .u8 (xs.getD i 0)) (by simp [nums, List.getElem?_eq_getElem (show i < xs.length by omega), List.getD_eq_getElem?_getD])
    have ha : (⟨g, 0, none⟩ : Addr).add i = ⟨g, 0 + i, none⟩ := by unfold Addr.add; split <;> simp_all
    rwa [ha] at hc
section
variable {P : Program} {ops : Array Oper} {rest : List Oper} {o : Oper} {a : Act} {Q : Exit → Act → World → Prop}
end
section
variable {P : Program}
end
section
variable {P : Program} {ops : Array Oper} {rest : List Oper} {o : Oper} {a : Act} {Q : Exit → Act → World → Prop}
end
def bytesOf (s : ByteArray) : List Int := s.data.toList.map fun b => (b.toNat : Int)
theorem data_length (s : ByteArray) : s.data.toList.length = s.size := by rw [Array.length_toList]; rfl
theorem bytesOf_length (s : ByteArray) : (bytesOf s).length = s.size := by rw [bytesOf, List.length_map, data_length]
def Reps {α : Type} (R : α → List Value → Prop) (size : Nat) (ps : List α) (cs : List Value) : Prop :=
  cs.length = ps.length * size ∧ ∀ j p, ps[j]? = some p → R p ((cs.drop (j * size)).take size)
theorem Reps.none {α : Type} (R : α → List Value → Prop) (size : Nat) : Reps R size [] [] := ⟨by simp, fun j p h => by simp at h⟩
theorem Reps.snoc {α : Type} {R : α → List Value → Prop} {size : Nat} {ps : List α} {cs c : List Value} {p : α} (h : Reps R size ps cs) (hp : R p c) (hc : c.length = size) : Reps R size (ps ++ [p]) (cs ++ c) := by
  refine ⟨by rw [List.length_append, h.1, hc, List.length_append, List.length_singleton, Nat.add_mul, Nat.one_mul], fun j q hq => ?_⟩
  rcases Nat.lt_or_ge j ps.length with hj | hj
  · rw [List.getElem?_append_left hj] at hq
    have h1 : j * size + size ≤ cs.length := by rw [h.1, ← Nat.succ_mul]; exact Nat.mul_le_mul_right _ hj
    have h2 := h.2 j q hq
    rw [List.drop_append_of_le_length (by omega), List.take_append_of_le_length (by rw [List.length_drop]; omega)]
    exact h2
  · have hj' : j = ps.length := by
      have := (List.getElem?_eq_some_iff.1 hq).1
      rw [List.length_append, List.length_singleton] at this
      omega
    subst hj'
    have hq' : p = q := by simpa using hq
    subst hq'
    rw [← h.1, List.drop_left, ← hc, List.take_length]
    exact hp
theorem Reps.imp_ {α : Type} {R R' : α → List Value → Prop} {size : Nat} {ps : List α} {cs : List Value} (h : Reps R size ps cs) (hR : ∀ p c, R p c → R' p c) : Reps R' size ps cs := ⟨h.1, fun j p hj => hR _ _ (h.2 j p hj)⟩
def ReadsRow {α : Type} (R : α → List Value → Prop) (size : Nat) (w : World) (A : Option Addr) (n : Nat) (ps : List α) : Prop :=
  ps.length = n ∧ n ≤ 9223372036854775807 ∧ (0 < n → ∃ ad, A = some ad ∧ ∀ j p, ps[j]? = some p → ∃ c, c.length = size ∧ R p c ∧ ∀ i u, c[i]? = some u → w.cell? (ad.add (j * size + i)) = some u)
theorem ReadsRow.imp_ {α : Type} {R R' : α → List Value → Prop} {size : Nat} {w w1 : World} {A : Option Addr} {n : Nat} {ps : List α} (h : ReadsRow R size w A n ps) (hb : Below w.heap.size w w1) (hR : ∀ p c, R p c → R' p c) : ReadsRow R' size w1 A n ps :=
  ⟨h.1, h.2.1, fun hn => by
    obtain ⟨ad, e, hc⟩ := h.2.2 hn
    refine ⟨ad, e, fun j p hj => ?_⟩
    obtain ⟨c, hs, hr, hcell⟩ := hc j p hj
    exact ⟨c, hs, hR _ _ hr, fun i u hu => pw_cell_below hb (hcell i u hu)⟩⟩
theorem own_reads_row {α : Type} {R : α → List Value → Prop} {w : World} {base n size : Nat} {e : TypeId} {v : Value} {ps : List α} {cs : List Value} (h : w.ownsRow base e size v n cs) (hR : Reps R size ps cs) (hn : ps.length = n) :
    ∃ A c, v = .slice A n c ∧ ReadsRow R size w A n ps := by
  rcases Nat.eq_zero_or_pos n with h0 | h0
  · rcases h.2 with ⟨rfl, rfl⟩ | ⟨g, cap, cur, rfl, _⟩
    · exact ⟨none, 0, rfl, hn, by omega, fun hp => absurd hp (by omega)⟩
    · exact ⟨_, cap, rfl, hn, by omega, fun hp => absurd hp (by omega)⟩
  · obtain ⟨g, cap, rfl, _, _⟩ := h.form h0
    have hm : n ≤ 9223372036854775807 := by
      rcases h.2 with ⟨_, h1⟩ | ⟨g', cap', cur, he, _, _, h1, h2, _⟩
      · omega
      · simp only [maxLen] at h2
        omega
    refine ⟨_, cap, rfl, hn, hm, fun _ => ⟨_, rfl, fun j p hj => ⟨(cs.drop (j * size)).take size, ?_, hR.2 j p hj, fun i u hu => ?_⟩⟩⟩
    · have hjl := (List.getElem?_eq_some_iff.1 hj).1
      have h1 : j * size + size ≤ cs.length := by rw [hR.1, ← Nat.succ_mul]; exact Nat.mul_le_mul_right _ hjl
      rw [List.length_take, List.length_drop]
      omega
    · refine h.cells (g := g) rfl _ u ?_
      rw [List.getElem?_take] at hu
      split at hu
      · rw [List.getElem?_drop] at hu
        exact hu
      · cases hu
theorem add_field (ad : Addr) (m j : Nat) (hj : 0 < j) : ad.add (m + j) = ⟨(ad.add m).block, (ad.add m).off + j, none⟩ := by
  unfold Addr.add
  by_cases hm : m = 0
  · subst hm
    simp [Nat.ne_of_gt hj]
  · simp [hm, Nat.add_assoc]
section
variable {P : Program} {ops : Array Oper} {rest : List Oper} {o : Oper} {a : Act} {Q : Exit → Act → World → Prop}
end
theorem blk_set {w : World} {g : Nat} {t : TypeId} {cs : Array Value} (h : w.heap[g]? = some (.cells cs t (0, 0))) (i : Nat) (u : Value) : (w.setCell ⟨g, i, none⟩ u).heap[g]? = some (.cells (cs.setIfInBounds i u) t (0, 0)) := by
  simp [World.setCell, Array.getElem?_modify, h]
theorem blk_far {w : World} {g : Nat} {t : TypeId} {cs : Array Value} (h : w.heap[g]? = some (.cells cs t (0, 0))) {p : Addr} (hp : g ≠ p.block) (u : Value) : (w.setCell p u).heap[g]? = some (.cells cs t (0, 0)) := (Below.heap_setCell w p u g hp).trans h
theorem blk_lt {w : World} {g : Nat} {o : Obj} (h : w.heap[g]? = some o) : g < w.heap.size := (Array.getElem?_eq_some_iff.1 h).1
theorem blk_cell {w : World} {g : Nat} {t : TypeId} {cs : Array Value} (h : w.heap[g]? = some (.cells cs t (0, 0))) (i : Nat) : w.cell? ⟨g, i, none⟩ = cs[i]? := cell_of_row w g i cs t (0, 0) h
theorem blk_frozen {w : World} {g : Nat} {t : TypeId} {cs : Array Value} (h : w.heap[g]? = some (.cells cs t (0, 0))) (i : Nat) : w.frozen? ⟨g, i, none⟩ = false := by simp [World.frozen?, h]
def KeepBut (w w' : World) (g : Nat) (row : Option Nat) : Prop := w.heap.size ≤ w'.heap.size ∧ ∀ i, i < w.heap.size → i ≠ g → some i ≠ row → w'.heap[i]? = w.heap[i]?
section
variable {P : Program} {ops : Array Oper} {o : Oper} {a : Act} {Q : Exit → Act → World → Prop} {K : Act → World → Prop}
end
theorem own_weaken {w : World} {base base' : Nat} {e : TypeId} {size n : Nat} {v : Value} {xs : List Value} (h : w.ownsRow base e size v n xs) (hb : base' ≤ base) : w.ownsRow base' e size v n xs := by
  obtain ⟨h1, h2⟩ := h
  refine ⟨h1, ?_⟩
  rcases h2 with h2 | ⟨g, cap, cur, rfl, hg, r⟩
  · exact .inl h2
  · exact .inr ⟨g, cap, cur, rfl, Nat.le_trans hb hg, r⟩
section
variable {α : Type} {enc : α → Value} {d : α}
def encs (enc : α → Value) (xs : List α) : List Value := xs.map enc
def rdOf (d : α) (xs : List α) (i : Int) : α := xs.getD i.toNat d
theorem encs_length (xs : List α) : (encs enc xs).length = xs.length := by simp [encs]
def ReadsOf (enc : α → Value) (d : α) (w : World) (A : Option Addr) (n : Nat) (xs : List α) : Prop :=
  xs.length = n ∧ n ≤ 9223372036854775807 ∧ (0 < n → ∃ ad, A = some ad ∧ ∀ j, j < n → w.cell? (ad.add j) = some (enc (xs.getD j d)))
theorem ReadsOf.at_ {w : World} {A : Option Addr} {n : Nat} {xs : List α} (h : ReadsOf enc d w A n xs) (i : Int) (h0 : 0 ≤ i) (h1 : i < n) : ∃ ad, A = some ad ∧ w.cell? (ad.add i.toNat) = some (enc (rdOf d xs i)) := by
  obtain ⟨ad, e, hc⟩ := h.2.2 (by omega)
  exact ⟨ad, e, hc _ (by omega)⟩
end
section
variable {α : Type} {P : Program} {ops : Array Oper} {rest : List Oper} {o : Oper} {a : Act} {Q : Exit → Act → World → Prop}
end
theorem blk_alloc {w : World} {g : Nat} {o : Obj} (h : w.heap[g]? = some o) (o' : Obj) : (w.alloc o').heap[g]? = some o := (Below.heap_alloc w o' g (blk_lt h)).trans h
theorem blk_drew {w : World} {g : Nat} {o : Obj} (h : w.heap[g]? = some o) : w.drew.heap[g]? = some o := h
theorem blk_drewN {w : World} {g : Nat} {o : Obj} (h : w.heap[g]? = some o) (n : Nat) : (w.drewN n).heap[g]? = some o := h
theorem blk_below {w w1 : World} {g : Nat} {o : Obj} (h : w.heap[g]? = some o) (hb : Below w.heap.size w w1) : w1.heap[g]? = some o := (hb.block g (blk_lt h)).trans h
theorem blk_new (w : World) (o : Obj) : (w.alloc o).heap[w.heap.size]? = some o := heap_alloc_new w o
section
variable {P : Program}
theorem results_ct {fn : Func} {p u : Tmp} {ty : TypeId} (h : fn.results = #[.cell p ty, .tmp u]) (tmps : Array Value) (w : World) (g : Nat) (t : TypeId) (cs : Array Value) (fr : Nat × Nat) (d : TypeDesc)
    (hp : tmps.getD p undef = .pointer (some ⟨g, 0, none⟩)) (hg : w.heap[g]? = some (.cells cs t fr))
    (hu : P.underlying ty = some d) (hd : (match d with | .struct _ | .array _ _ => true | _ => false) = true) (hi : (P.info? ty).map (·.size) = some cs.size) :
    (results fn tmps).run P w = .ok (.tuple #[.agg cs, tmps.getD u undef]) w := by
  have hp' : tmps[p]?.getD undef = .pointer (some ⟨g, 0, none⟩) := by simpa using hp
  simp [results, h, hp', asAddr, run_loadVar_row w g t ty cs fr d hg hu hd hi]
end
theorem own_le {w : World} {base n m c size : Nat} {e : TypeId} {A : Option Addr} {xs : List Value} (h : w.ownsRow base e size (.slice A m c) n xs) : m ≤ c := by
  rcases h.2 with ⟨he, _⟩ | ⟨g, cap, cur, he, _, _, hnc, _⟩
  · injection he with _ h2 h3
    omega
  · injection he with _ h2 h3
    omega
def OwnRow {α : Type} (R : α → List Value → Prop) (e : TypeId) (size : Nat) (w : World) (base : Nat) (v : Value) (ps : List α) : Prop :=
  ∃ inner, w.ownsRow base e size v ps.length inner ∧ Reps R size ps inner
section
variable {α : Type} {R R' : α → List Value → Prop} {e : TypeId} {size : Nat} {w w1 : World} {base : Nat} {v : Value} {ps : List α}
theorem OwnRow.none_ (R : α → List Value → Prop) (e : TypeId) (size : Nat) (w : World) (base : Nat) : OwnRow R e size w base (.slice none 0 0) [] := ⟨[], own_nil _ _ _ _, Reps.none _ _⟩
theorem OwnRow.imp_ (h : OwnRow R e size w base v ps) (hR : ∀ p c, R p c → R' p c) : OwnRow R' e size w base v ps := by
  obtain ⟨inner, ho, hr⟩ := h
  exact ⟨inner, ho, hr.imp_ hR⟩
theorem OwnRow.reads (h : OwnRow R e size w base v ps) : ∃ A c, v = .slice A ps.length c ∧ ps.length ≤ c ∧ ReadsRow R size w A ps.length ps := by
  obtain ⟨inner, ho, hr⟩ := h
  obtain ⟨A, c, rfl, hrow⟩ := own_reads_row ho hr rfl
  exact ⟨A, c, rfl, own_le ho, hrow⟩
end
section
variable {P : Program} {ops : Array Oper} {rest : List Oper} {o : Oper} {a : Act} {Q : Exit → Act → World → Prop} {α : Type} {R : α → List Value → Prop}
end
section
variable {P : Program} {ops : Array Oper} {o : Oper} {a : Act} {Q : Exit → Act → World → Prop} {K : Act → World → Prop} {α : Type} {R : α → List Value → Prop}
end
theorem ReadsRow.inner_ {α : Type} {R : α → List Value → Prop} {size : Nat} {w : World} {ad : Addr} {n : Nat} {ps : List α} (h : ReadsRow R size w (some ad) n ps) :
    ∃ inner, Reps R size ps inner ∧ ∀ j u, inner[j]? = some u → w.cell? (ad.add j) = some u := by
  have key : ∀ m, m ≤ ps.length → ∃ inner, Reps R size (ps.take m) inner ∧ ∀ j u, inner[j]? = some u → w.cell? (ad.add j) = some u := by
    intro m
    induction m with
    | zero => exact fun _ => ⟨[], Reps.none _ _, fun j u hu => by simp at hu⟩
    | succ m ih =>
      intro hm
      obtain ⟨inner, hr, hc⟩ := ih (by omega)
      obtain ⟨ad', he, hcell⟩ := h.2.2 (by have := h.1; omega)
      injection he with he
      subst he
      obtain ⟨c, hcl, hp, hcc⟩ := hcell m _ (List.getElem?_eq_getElem (show m < ps.length by omega))
      refine ⟨inner ++ c, ?_, fun j u hu => ?_⟩
      · rw [List.take_succ_eq_append_getElem (show m < ps.length by omega)]
        exact hr.snoc hp hcl
      · have hil : inner.length = m * size := by rw [hr.1, List.length_take, Nat.min_eq_left (by omega)]
        rcases Nat.lt_or_ge j inner.length with hj | hj
        · rw [List.getElem?_append_left hj] at hu
          exact hc j u hu
        · rw [List.getElem?_append_right hj] at hu
          have := hcc (j - inner.length) u hu
          rwa [hil, Nat.add_sub_cancel' (by omega)] at this
  obtain ⟨inner, hr, hc⟩ := key ps.length (Nat.le_refl _)
  rw [List.take_length] at hr
  exact ⟨inner, hr, hc⟩
section
variable {α : Type} {P : Program}
end
section
variable {P : Program} {ops : Array Oper} {rest : List Oper} {o : Oper} {a : Act} {Q : Exit → Act → World → Prop}
end
structure Kd (α : Type) where
  sz : Nat
  E : List Nat
  K : World → α → List Value → Prop
  M : World → Nat → (Nat → Prop) → α → List Value → Prop
  K_len : ∀ {w x cs}, K w x cs → cs.length = sz
  K_one : ∀ {w x cs}, K w x cs → ∀ u ∈ cs, u.oneCell' = true
  K_below : ∀ {w w1 : World} {x cs}, Below w.heap.size w w1 → K w x cs → K w1 x cs
  K_of_M : ∀ {w base ok x cs}, M w base ok x cs → K w x cs
  M_mono : ∀ {w base ok ok' x cs}, (∀ k, ok k → ok' k) → M w base ok x cs → M w base ok' x cs
  M_bound : ∀ {w : World} {base ok x cs}, M w base ok x cs → M w base (fun k => ok k ∧ base ≤ k ∧ k < w.heap.size ∧ ∃ q, q ∈ E ∧ ∃ cells, w.heap[k]? = some (.cells cells q (0, 0))) x cs
  M_move : ∀ {w w1 : World} {base ok x cs}, (∀ k, ok k → w1.heap[k]? = w.heap[k]?) → M w base ok x cs → M w1 base ok x cs
  M_lower : ∀ {w base base' ok x cs}, base' ≤ base → M w base ok x cs → M w base' ok x cs
theorem own_move {w w1 : World} {base : Nat} {e : TypeId} {size n : Nat} {v : Value} {xs : List Value} (h : w.ownsRow base e size v n xs) (hm : ∀ k, v.ownBlock = some k → w1.heap[k]? = w.heap[k]?) : w1.ownsRow base e size v n xs := by
  obtain ⟨h1, h2⟩ := h
  refine ⟨h1, ?_⟩
  rcases h2 with h2 | ⟨g, cap, cur, rfl, hg, hh, r⟩
  · exact .inl h2
  · exact .inr ⟨g, cap, cur, rfl, hg, (hm g (by simp [Value.ownBlock])).trans hh, r⟩
theorem own_typed {w : World} {base : Nat} {e : TypeId} {size n : Nat} {v : Value} {xs : List Value} (h : w.ownsRow base e size v n xs) (k : Nat) (hk : v.ownBlock = some k) : ∃ cells, w.heap[k]? = some (.cells cells e (0, 0)) := by
  rcases h.2 with ⟨rfl, _⟩ | ⟨g, cap, cur, rfl, hg, hh, r⟩
  · simp [Value.ownBlock] at hk
  · have : g = k := by simpa [Value.ownBlock] using hk
    subst this
    exact ⟨cur, hh⟩
namespace Kd
def C {α : Type} (d : Kd α) (w : World) (A : Option Addr) (n : Nat) (xs : List α) : Prop := ReadsRow (d.K w) d.sz w A n xs
def R {α : Type} (d : Kd α) (e : Nat) (w : World) (base : Nat) (ok : Nat → Prop) (v : Value) (xs : List α) : Prop :=
  (∀ k, v.ownBlock = some k → ok k) ∧ OwnRow (d.M w base (fun k => ok k ∧ some k ≠ v.ownBlock)) e d.sz w base v xs
section
variable {α : Type} {d : Kd α} {e : Nat} {w w1 : World} {base : Nat} {ok ok' : Nat → Prop} {v : Value} {xs : List α}
theorem C_below {A : Option Addr} {n : Nat} (h : d.C w A n xs) (hb : Below w.heap.size w w1) : d.C w1 A n xs := ReadsRow.imp_ h hb (fun _ _ hp => d.K_below hb hp)
theorem R_nil (d : Kd α) (e : Nat) (w : World) (base : Nat) (ok : Nat → Prop) : d.R e w base ok (.slice none 0 0) [] := ⟨fun k hk => by simp [Value.ownBlock] at hk, OwnRow.none_ _ _ _ _ _⟩
theorem R_mono (h : d.R e w base ok v xs) (hok : ∀ k, ok k → ok' k) : d.R e w base ok' v xs := ⟨fun k hk => hok k (h.1 k hk), h.2.imp_ (fun _ _ hp => d.M_mono (fun k hk => ⟨hok k hk.1, hk.2⟩) hp)⟩
theorem R_bound (h : d.R e w base ok v xs) : d.R e w base (fun k => ok k ∧ base ≤ k ∧ k < w.heap.size ∧ ∃ q, q ∈ e :: d.E ∧ ∃ cells, w.heap[k]? = some (.cells cells q (0, 0))) v xs := by
  obtain ⟨h0, inner, ho, hr⟩ := h
  refine ⟨fun k hk => ?_, inner, ho, hr.imp_ (fun _ _ hp => d.M_mono (fun k hk => ?_) (d.M_bound hp))⟩
  · obtain ⟨cells, hc⟩ := own_typed ho k hk
    exact ⟨h0 k hk, own_base ho k hk, own_lt ho k hk, e, List.mem_cons_self, cells, hc⟩
  · obtain ⟨⟨h1, h2⟩, h3, h4, q, hq, hc⟩ := hk
    exact ⟨⟨h1, h3, h4, q, List.mem_cons_of_mem _ hq, hc⟩, h2⟩
theorem R_move (h : d.R e w base ok v xs) (hm : ∀ k, ok k → w1.heap[k]? = w.heap[k]?) : d.R e w1 base ok v xs := by
  obtain ⟨h0, inner, ho, hr⟩ := h
  exact ⟨h0, inner, own_move ho (fun k hk => hm k (h0 k hk)), hr.imp_ (fun _ _ hp => d.M_move (fun k hk => hm k hk.1) hp)⟩
theorem R_lower {base' : Nat} (h : d.R e w base ok v xs) (hb : base' ≤ base) : d.R e w base' ok v xs := by
  obtain ⟨h0, inner, ho, hr⟩ := h
  exact ⟨h0, inner, own_weaken ho hb, hr.imp_ (fun _ _ hp => d.M_lower hb hp)⟩
theorem R_step (h : d.R e w base ok v xs) (hm : ∀ k, ok k → k < w.heap.size → w1.heap[k]? = w.heap[k]?) : d.R e w1 base ok v xs :=
  R_mono (R_move (R_bound h) (fun k hk => hm k hk.1 hk.2.2.1)) (fun _ hk => hk.1)
theorem M_step {x : α} {cs : List Value} (h : d.M w base ok x cs) (hm : ∀ k, ok k → k < w.heap.size → w1.heap[k]? = w.heap[k]?) : d.M w1 base ok x cs :=
  d.M_mono (fun _ hk => hk.1) (d.M_move (fun k hk => hm k hk.1 hk.2.2.1) (d.M_bound h))
theorem R_below (h : d.R e w base ok v xs) (hb : Below w.heap.size w w1) : d.R e w1 base ok v xs := R_step h (fun k _ hk => hb.block k hk)
theorem M_below {x : α} {cs : List Value} (h : d.M w base ok x cs) (hb : Below w.heap.size w w1) : d.M w1 base ok x cs := M_step h (fun k _ hk => hb.block k hk)
theorem R_reads (h : d.R e w base ok v xs) : ∃ A c, v = .slice A xs.length c ∧ xs.length ≤ c ∧ d.C w A xs.length xs := by
  obtain ⟨A, c, he, hl, hr⟩ := OwnRow.reads h.2
  exact ⟨A, c, he, hl, hr.imp_ (Below.refl _ _) (fun _ _ hp => d.K_of_M hp)⟩
theorem R_slice (h : d.R e w base ok v xs) : ∃ A c, v = .slice A xs.length c := by
  obtain ⟨A, c, he, _⟩ := R_reads h
  exact ⟨A, c, he⟩
theorem R_own (h : d.R e w base ok v xs) : ∃ inner, w.ownsRow base e d.sz v xs.length inner := by
  obtain ⟨_, inner, ho, _⟩ := h
  exact ⟨inner, ho⟩
end
def scalar {α : Type} (enc : α → Value) (h1 : ∀ x, (enc x).oneCell' = true) : Kd α where
  sz := 1
  E := []
  K := fun _ x cs => cs = [enc x]
  M := fun _ _ _ x cs => cs = [enc x]
  K_len := fun h => by rw [h]; rfl
  K_one := fun h u hu => by
    rw [h] at hu
    rw [List.mem_singleton.1 hu]
    exact h1 _
  K_below := fun _ h => h
  K_of_M := fun h => h
  M_mono := fun _ h => h
  M_bound := fun h => h
  M_move := fun _ h => h
  M_lower := fun _ h => h
def int (k : IntKind) : Kd Int := scalar (Value.int k) (fun _ => rfl)
def bot {α : Type} (sz : Nat) (E : List Nat) : Kd α where
  sz := sz
  E := E
  K := fun _ _ _ => False
  M := fun _ _ _ _ _ => False
  K_len := fun h => h.elim
  K_one := fun h => h.elim
  K_below := fun _ h => h
  K_of_M := fun h => h
  M_mono := fun _ h => h
  M_bound := fun h => h
  M_move := fun _ h => h
  M_lower := fun _ h => h
def upto {α : Type} (F : Kd α → Kd α) (sz : Nat) (E : List Nat) : Nat → Kd α
  | 0 => bot sz E
  | n + 1 => F (upto F sz E n)
section
variable {P : Program} {ops : Array Oper} {rest : List Oper} {o : Oper} {a : Act} {Q : Exit → Act → World → Prop} {α : Type}
end
section
variable {P : Program} {ops : Array Oper} {o : Oper} {a : Act} {Q : Exit → Act → World → Prop} {Kc : Act → World → Prop} {α : Type}
end
theorem reps_scalar {α : Type} {enc : α → Value} (xs : List α) : Reps (fun (x : α) (cs : List Value) => cs = [enc x]) 1 xs (encs enc xs) := by
  refine ⟨by simp [encs], fun j p hj => ?_⟩
  obtain ⟨hl, hp⟩ := List.getElem?_eq_some_iff.1 hj
  have hl' : j < (encs enc xs).length := by rw [encs_length]; exact hl
  rw [Nat.mul_one, List.drop_eq_getElem_cons hl']
  simp [encs, hp]
theorem R_of_own {α : Type} {enc : α → Value} {h1 : ∀ x, (enc x).oneCell' = true} {e : Nat} {w : World} {base : Nat} {ok : Nat → Prop} {v : Value} {xs : List α} (ho : w.ownsRow base e 1 v xs.length (encs enc xs)) (hok : ∀ k, v.ownBlock = some k → ok k) : (scalar enc h1).R e w base ok v xs := ⟨hok, encs enc xs, ho, reps_scalar xs⟩
theorem own_of_R {α : Type} {enc : α → Value} {h1 : ∀ x, (enc x).oneCell' = true} {e : Nat} {w : World} {base : Nat} {ok : Nat → Prop} {v : Value} {xs : List α} (h : (scalar enc h1).R e w base ok v xs) : w.ownsRow base e 1 v xs.length (encs enc xs) := by
  obtain ⟨_, inner, ho, hr⟩ := h
  have : inner = encs enc xs := by
    apply List.ext_getElem?
    intro j
    rcases Nat.lt_or_ge j xs.length with hj | hj
    · have h2 := hr.2 j _ (List.getElem?_eq_getElem hj)
      have hl : j < inner.length := by have := hr.1; simp [scalar] at this; omega
      have h3 : (inner.drop (j * 1)).take 1 = [enc xs[j]] := h2
      rw [Nat.mul_one, List.drop_eq_getElem_cons hl] at h3
      have h4 : inner[j] = enc xs[j] := by
        have h5 := congrArg List.head? h3
        rw [List.take_succ_cons] at h5
        exact Option.some.inj h5
      rw [List.getElem?_eq_getElem hl, h4]
      simp [encs, List.getElem?_eq_getElem hj]
    · have h3 : inner.length = xs.length := by have := hr.1; simp [scalar] at this; omega
      rw [List.getElem?_eq_none (by omega), List.getElem?_eq_none (by rw [encs_length]; omega)]
  rw [← this]
  exact ho
theorem C_of_reads {α : Type} {enc : α → Value} {d : α} {h1 : ∀ x, (enc x).oneCell' = true} {w : World} {A : Option Addr} {n : Nat} {xs : List α} (h : ReadsOf enc d w A n xs) : (scalar enc h1).C w A n xs := by
  refine ⟨h.1, h.2.1, fun hn => ?_⟩
  obtain ⟨ad, e, hc⟩ := h.2.2 hn
  refine ⟨ad, e, fun j p hj => ⟨[enc p], rfl, rfl, fun i u hu => ?_⟩⟩
  obtain ⟨hl, hp⟩ := List.getElem?_eq_some_iff.1 hj
  have h2 := hc j (by have := h.1; omega)
  rw [List.getD_eq_getElem?_getD, hj] at h2
  cases i with
  | zero =>
    have : enc p = u := by simpa using hu
    subst this
    simpa [scalar] using h2
  | succ i => simp at hu
theorem reads_of_C {α : Type} {enc : α → Value} {d : α} {h1 : ∀ x, (enc x).oneCell' = true} {w : World} {A : Option Addr} {n : Nat} {xs : List α} (h : (scalar enc h1).C w A n xs) : ReadsOf enc d w A n xs := by
  refine ⟨h.1, h.2.1, fun hn => ?_⟩
  obtain ⟨ad, e, hc⟩ := h.2.2 hn
  refine ⟨ad, e, fun j hj => ?_⟩
  have hl : j < xs.length := by have := h.1; omega
  obtain ⟨c, _, hK, hcell⟩ := hc j _ (List.getElem?_eq_getElem hl)
  have hK' : c = [enc xs[j]] := hK
  subst hK'
  have := hcell 0 _ rfl
  simpa [scalar, List.getD_eq_getElem?_getD, List.getElem?_eq_getElem hl] using this
end Kd
namespace Kd
section
variable {α : Type} {F : Kd α → Kd α} {sz : Nat} {E : List Nat} {hs : ∀ n, (upto F sz E n).sz = sz} {hE : ∀ n q, q ∈ (upto F sz E n).E → q ∈ E}
end
end Kd
namespace Kd
end Kd
namespace Kd
section
variable {α β : Type} {d : Kd α} {d' : Kd β} {e e' : Nat} {w w1 W : World} {base b b' : Nat} {ok ok' okv oku : Nat → Prop} {v u : Value} {xs : List α} {ys : List β}
theorem R_drew (h : d.R e w base ok v xs) : d.R e w.drew base ok v xs := R_below h (below_drew (Below.refl _ _))
theorem C_alloc {A : Option Addr} {n : Nat} (h : d.C w A n xs) (o : Obj) : d.C (w.alloc o) A n xs := C_below h (below_alloc (Below.refl _ _) o)
theorem C_drew {A : Option Addr} {n : Nat} (h : d.C w A n xs) : d.C w.drew A n xs := C_below h (below_drew (Below.refl _ _))
theorem R_reads' {A : Option Addr} {n c : Nat} (h : d.R e w base ok (.slice A n c) xs) : n = xs.length ∧ n ≤ c ∧ d.C w A xs.length xs := by
  obtain ⟨A', c', he, hl, hr⟩ := R_reads h
  injection he with h1 h2 h3
  subst h1
  exact ⟨h2, by omega, hr⟩
theorem R_lt (h : d.R e w base ok v xs) : ∀ k, v.ownBlock = some k → k < w.heap.size := by
  obtain ⟨inner, ho⟩ := R_own h
  exact own_lt ho
theorem R_base (h : d.R e w base ok v xs) : ∀ k, v.ownBlock = some k → base ≤ k := by
  obtain ⟨inner, ho⟩ := R_own h
  exact own_base ho
end
section
variable {w W : World} {A : Option Addr} {n : Nat}
theorem at_int {k : IntKind} {xs : List Int} (h : (Kd.int k).C w A n xs) (i : Int) (h0 : 0 ≤ i) (h1 : i < n) : ∃ ad, A = some ad ∧ w.cell? (ad.add i.toNat) = some (.int k (rd xs i)) :=
  ReadsOf.at_ (reads_of_C (enc := Value.int k) (d := (0 : Int)) (h1 := fun _ => rfl) h) i h0 h1
variable {α : Type} {enc : α → Value} {h1 : ∀ x, (enc x).oneCell' = true} {e base g cap : Nat} {ok : Nat → Prop} {xs : List α}
end
section
variable {P : Program} {ops : Array Oper} {rest : List Oper} {o : Oper} {a : Act} {Q : Exit → Act → World → Prop}
theorem event_run {W w1 : World} {v : Value} (hgd : o.guard = none) (hrun : (execOp a.eval o).run P W = .ok (.value v) w1) (h : wpList P ops Q rest (a.put o.dst v) w1) : wpList P ops Q (o :: rest) a W := by
  refine wpList_plain hgd fun K hK => ?_
  unfold Oper.wp
  rw [hrun]
  exact hK _ _ h
variable {α : Type}
theorem R_lit (d : Kd α) {w0 W : World} (base e : Nat) (hgd : o.guard = none) {N : Tmp} (_hd : o.dst = some N) {xs : List α} {inner : List Value} {ok okp : Nat → Prop}
    (hrun : (execOp a.eval o).run P W = .ok (.value (.slice (some ⟨W.heap.size, 0, none⟩) xs.length xs.length)) (W.alloc (.cells inner.toArray e)))
    (hrep : Reps (d.M W base okp) d.sz xs inner) (hok : ∀ k, okp k → ok k) (hfresh : ok W.heap.size) (HB : Below base w0 W) (hbase : base ≤ W.heap.size) (hm : xs.length ≤ 9223372036854775807)
    (h : ∀ v1 w1, d.R e w1 base ok v1 xs → Below base w0 w1 → W.grownBy w1 none → (∃ b, v1.ownBlock = some b ∧ W.heap.size ≤ b) → wpList P ops Q rest (a.put o.dst v1) w1) : wpList P ops Q (o :: rest) a W := by
  refine event_run hgd hrun (h _ _ ⟨fun k hk => ?_, inner, ?_, ?_⟩ (HB.alloc hbase _) (World.grownBy_alloc W _ none) ⟨W.heap.size, by simp [Value.ownBlock], Nat.le_refl _⟩)
  · have : W.heap.size = k := by simpa [Value.ownBlock] using hk
    subst this
    exact hfresh
  · have h2 := World.ownsRow_lit (base := base) (e := e) (size := d.sz) W inner.toArray xs.length hbase (by simpa [maxLen] using hm) (by simpa using hrep.1)
    simpa using h2
  · refine hrep.imp_ (fun p c hp => d.M_mono (fun k hk => ⟨hok k hk.1, fun he => ?_⟩) (M_below (d.M_bound hp) (below_alloc (Below.refl _ _) _)))
    have h3 : k = W.heap.size := by simpa [Value.ownBlock] using he
    have := hk.2.2.1
    omega
end
end Kd
section
variable {P : Program}
end
section
variable {w w1 : World} {base n size : Nat} {e : TypeId} {v : Value} {xs : List Value}
theorem setCells_far {g : Nat} : ∀ (vs : List Value) (o : Nat) {w : World} (k : Nat), k ≠ g → (w.setCells g o vs).heap[k]? = w.heap[k]?
  | [], _, _, _, _ => rfl
  | v :: r, o, w, k, hk => by
    rw [World.setCells, setCells_far r (o + 1) k hk]
    exact Below.heap_setCell w ⟨g, o, none⟩ v k hk
theorem setCells_same (g : Nat) : ∀ (vs : List Value) (o : Nat) (w : World), (w.setCells g o vs).os = w.os ∧ (w.setCells g o vs).tape = w.tape ∧ (w.setCells g o vs).output = w.output ∧ (w.setCells g o vs).heap.size = w.heap.size
  | [], _, _ => ⟨rfl, rfl, rfl, rfl⟩
  | v :: r, o, w => by
    obtain ⟨h1, h2, h3, h4⟩ := setCells_same g r (o + 1) (w.setCell ⟨g, o, none⟩ v)
    rw [World.setCells]
    exact ⟨h1, h2, h3, by rw [h4]; simp [World.setCell]⟩
theorem setCells_row {g : Nat} {e : TypeId} : ∀ (vs : List Value) (o : Nat) (w : World) (cur : Array Value), w.heap[g]? = some (.cells cur e (0, 0)) → o + vs.length ≤ cur.size →
    ∃ cur', (w.setCells g o vs).heap[g]? = some (.cells cur' e (0, 0)) ∧ cur'.size = cur.size ∧ cur'.toList = cur.toList.take o ++ vs ++ cur.toList.drop (o + vs.length)
  | [], o, w, cur, h, _ => ⟨cur, h, rfl, by simp⟩
  | v :: r, o, w, cur, h, hl => by
    have h2 := blk_set h o v
    simp only [List.length_cons] at hl
    obtain ⟨cur', h3, h4, h5⟩ := setCells_row r (o + 1) (w.setCell ⟨g, o, none⟩ v) _ h2 (by simp; omega)
    refine ⟨cur', h3, by rw [h4]; simp, ?_⟩
    rw [h5, Array.toList_setIfInBounds]
    have ho : o < cur.toList.length := by rw [Array.length_toList]; omega
    rw [List.take_set, List.drop_set_of_lt (by omega)]
    simp only [List.length_cons]
    rw [show o + 1 + r.length = o + (r.length + 1) by omega]
    congr 1
    rw [List.take_succ_eq_append_getElem ho, List.set_append_right _ _ (by rw [List.length_take]; omega)]
    have ho' : o < cur.size := by omega
    simp [Nat.min_eq_left (Nat.le_of_lt ho')]
end
section
variable {P : Program}
end
namespace Kd
section
variable {α : Type} {d : Kd α} {e : Nat} {w w1 W : World} {base : Nat} {ok ok' : Nat → Prop} {v : Value} {xs : List α}
end
section
variable {P : Program} {ops : Array Oper} {rest : List Oper} {o : Oper} {a : Act} {Q' : Exit → Act → World → Prop} {Kc : Act → World → Prop} {α : Type}
end
end Kd
namespace Kd
section
variable {α : Type} {d : Kd α} {e e' : Nat} {w w1 W : World} {base : Nat} {ok : Nat → Prop} {u v : Value} {xs : List α}
theorem R_elder' (hu : d.R e W base ok u xs) (hbase : ∀ k, v.ownBlock = some k → W.heap.size ≤ k) (hb : Below W.heap.size W w1) : d.R e w1 base (fun k => ok k ∧ some k ≠ v.ownBlock) u xs :=
  R_mono (R_move (R_bound hu) (fun k hk => hb.block k hk.2.2.1)) (fun k hk => ⟨hk.1, fun he => by have := hbase k he.symm; have := hk.2.2.1; omega⟩)
theorem R_new' (h : d.R e w1 W.heap.size ok v xs) (hlt : ∀ k, u.ownBlock = some k → k < W.heap.size) : d.R e w1 W.heap.size (fun k => ok k ∧ some k ≠ u.ownBlock) v xs :=
  R_mono (R_bound h) (fun k hk => ⟨hk.1, fun he => by have := hlt k he.symm; have := hk.2.1; omega⟩)
end
end Kd
namespace Kd
section
variable {α : Type} {d : Kd α} {e base g n cap : Nat} {ok okp : Nat → Prop} {W : World} {xs : List α}
end
end Kd
namespace Kd
section
variable {α : Type} {F : Kd α → Kd α} {sz : Nat} {E : List Nat} {hs : ∀ n, (upto F sz E n).sz = sz} {hE : ∀ n q, q ∈ (upto F sz E n).E → q ∈ E}
end
end Kd
namespace Kd
theorem reps_append {α : Type} {R : α → List Value → Prop} {size : Nat} {ps qs : List α} {cs ds : List Value} (h : Reps R size ps cs) (h' : Reps R size qs ds) : Reps R size (ps ++ qs) (cs ++ ds) := by
  refine ⟨by rw [List.length_append, List.length_append, h.1, h'.1, Nat.add_mul], fun j p hj => ?_⟩
  rcases Nat.lt_or_ge j ps.length with hlt | hge
  · rw [List.getElem?_append_left hlt] at hj
    have hle : j * size + size ≤ cs.length := by rw [h.1, ← Nat.succ_mul]; exact Nat.mul_le_mul_right _ hlt
    rw [List.drop_append_of_le_length (by omega), List.take_append_of_le_length (by rw [List.length_drop]; omega)]
    exact h.2 j p hj
  · rw [List.getElem?_append_right hge] at hj
    have h2 := h'.2 (j - ps.length) p hj
    have hle : ps.length * size ≤ j * size := Nat.mul_le_mul_right _ hge
    rw [List.drop_append, List.drop_eq_nil_of_le (by rw [h.1]; exact hle), List.nil_append, h.1, ← Nat.sub_mul]
    exact h2
section
variable {P : Program} {ops : Array Oper} {rest : List Oper} {o : Oper} {a : Act} {Q : Exit → Act → World → Prop} {α : Type}
theorem R_append_rows (d : Kd α) {Rr : α → List Value → Prop} {w0 W : World} (base : Nat) (hgd : o.guard = none) (s x : Operand) (t e : TypeId) (z : Value) (bytes : Nat)
    (ho : o.op = .call { callee := .builtin .append, args := #[s, x], argTypes := #[t, t] })
    (ht : P.underlying t = some (.slice e)) (hinfo : (P.info? e).map (fun i => (i.zero, i.size, i.bytes)) = some (some z, d.sz, bytes)) (hz : z.cells.size = d.sz) (hs0 : 0 < d.sz) (hb0 : 0 < bytes)
    (v : Value) (xs ys : List α) (A : Option Addr) (m c : Nat) (ok okp : Nat → Prop) (hs : a.eval s = v) (hx : a.eval x = .slice A m c)
    (HO : d.R e W base ok v xs) (HR : ReadsRow Rr d.sz W A m ys) (hKM : ∀ x cs, Rr x cs → d.M W base okp x cs) (hokp : ∀ k, okp k → ok k ∧ some k ≠ v.ownBlock) (hfresh : ∀ k, W.heap.size ≤ k → ok k)
    (HB : Below base w0 W) (hbase : base ≤ W.heap.size) (hl : (xs.length + m) * bytes ≤ 140737488355328)
    (h : ∀ v1 w1, d.R e w1 base ok v1 (xs ++ ys) → Below base w0 w1 → W.grownBy w1 v.ownBlock → (v1.ownBlock = v.ownBlock ∨ ∃ b, v1.ownBlock = some b ∧ W.heap.size ≤ b) → wpList P ops Q rest (a.put o.dst v1) w1) :
    wpList P ops Q (o :: rest) a W := by
  obtain ⟨i0, hi, hzz⟩ := Option.map_eq_some_iff.1 hinfo
  simp only [Prod.mk.injEq] at hzz
  obtain ⟨hz0, hz1, hz2⟩ := hzz
  have hm : ys.length = m := HR.1
  have hlen : xs.length + m ≤ 140737488355328 := Nat.le_trans (Nat.le_mul_of_pos_right _ hb0) hl
  obtain ⟨hok, inner, hown, hr⟩ := HO
  have hrun : ∃ v1 w1, (Builtin.append_ #[t, t] o.type #[v, .slice A m c]).run P W = .ok v1 w1 ∧ d.R e w1 base ok v1 (xs ++ ys) ∧ W.grownBy w1 v.ownBlock ∧ (v1.ownBlock = v.ownBlock ∨ ∃ b, v1.ownBlock = some b ∧ W.heap.size ≤ b) := by
    rcases A with _ | ad
    · have h0 : m = 0 := by
        rcases Nat.eq_zero_or_pos m with h0 | h0
        · exact h0
        · obtain ⟨ad, h, _⟩ := HR.2.2 h0
          cases h
      subst h0
      obtain rfl : ys = [] := List.eq_nil_of_length_eq_zero hm
      refine ⟨v, W, ?_, by rw [List.append_nil]; exact ⟨hok, inner, hown, hr⟩, World.grownBy.refl W _, .inl rfl⟩
      rcases hown.2 with ⟨rfl, hn⟩ | ⟨g, cap, cur, rfl, _, _, hnc, _⟩
      · simp [Builtin.append_, run_underlying ht, sizeOf, typeInfo, hi, Builtin.lenOf, Builtin.firstCells]
      · simp [Builtin.append_, run_underlying ht, sizeOf, typeInfo, hi, Builtin.lenOf, Builtin.firstCells, hnc, storeCells]
    · obtain ⟨news, hnr, hnc⟩ := ReadsRow.inner_ HR
      have hnM : Reps (d.M W base okp) d.sz ys news := hnr.imp_ (fun p c hp => hKM p c hp)
      have hone : ∀ u ∈ news, u.oneCell' = true := by
        intro u hu
        obtain ⟨q, hq, rfl⟩ := List.mem_iff_getElem.1 hu
        have hql : q / d.sz < ys.length := by
          rw [Nat.div_lt_iff_lt_mul hs0]
          rw [← hnM.1]
          exact hq
        have hc := hnM.2 (q / d.sz) _ (List.getElem?_eq_getElem hql)
        refine d.K_one (d.K_of_M hc) _ ?_
        rw [List.mem_iff_getElem?]
        refine ⟨q % d.sz, ?_⟩
        rw [List.getElem?_take, if_pos (Nat.mod_lt _ hs0), List.getElem?_drop, Nat.mul_comm, Nat.div_add_mod, List.getElem?_eq_getElem hq]
      obtain ⟨v1, w1, hrun, h2, hg, _, hat⟩ := run_append_own_at (P := P) W base t o.type e i0 z d.sz bytes ht hi hz0 hz1 hz2 hz hs0 v xs.length inner hown ad m c news (by rw [hnM.1, hm]) hnc hone (by simp only [maxLen]; omega) hl hbase
      have hat' : v1.ownBlock = v.ownBlock ∨ ∃ b, v1.ownBlock = some b ∧ W.heap.size ≤ b := by
        rcases hat with hat | hat
        · exact .inl hat
        · exact .inr ⟨_, hat, Nat.le_refl _⟩
      have hne : ∀ k, some k ≠ v.ownBlock → k < W.heap.size → some k ≠ v1.ownBlock := by
        intro k hk hlt
        rcases hat' with hat | ⟨b, hb, hle⟩
        · rw [hat]; exact hk
        · rw [hb]
          intro he
          injection he with he
          omega
      have step : ∀ {q : α} {c : List Value} {o : Nat → Prop}, d.M W base o q c → (∀ k, o k → ok k ∧ some k ≠ v.ownBlock) → d.M w1 base (fun k => ok k ∧ some k ≠ v1.ownBlock) q c := by
        intro q c o hq ho
        have h1 := d.M_move (w1 := w1) (fun k hk => hg.block k hk.2.2.1 (ho k hk.1).2) (d.M_bound hq)
        exact d.M_mono (fun k hk => ⟨(ho k hk.1).1, hne k (ho k hk.1).2 hk.2.2.1⟩) h1
      refine ⟨v1, w1, hrun, ⟨fun k hk => ?_, inner ++ news, by rw [List.length_append, hm]; exact h2, reps_append (hr.imp_ (fun _ _ hq => step hq (fun _ hk => hk))) (hnM.imp_ (fun _ _ hq => step hq hokp))⟩, hg, hat'⟩
      rcases hat' with hat | ⟨b, hb, hle⟩
      · exact hok k (hat ▸ hk)
      · rw [hb] at hk
        injection hk with hk
        exact hfresh k (by omega)
  obtain ⟨v1, w1, hr1, h1, hg, hat⟩ := hrun
  refine wpList_plain hgd fun K hK => ?_
  unfold Oper.wp execOp
  simp only [ho, resolve, invoke, builtin, Sem.run_bind, Sem.run_pure, Result.andThen_ok, List.map_toArray, List.map_cons, List.map_nil, hs, hx, hr1]
  exact hK _ _ (h v1 w1 h1 (HB.grown hg hbase (own_base hown)) hg hat)
end
end Kd
namespace Kd
section
variable {P : Program} {ops : Array Oper} {rest : List Oper} {o : Oper} {a : Act} {Q : Exit → Act → World → Prop} {α : Type}
end
end Kd
theorem add_add (a : Addr) (i j : Nat) : (a.add i).add j = a.add (i + j) := by
  unfold Addr.add
  by_cases h1 : i = 0 <;> by_cases h2 : j = 0 <;> simp [h1, h2, Nat.add_assoc]
namespace Kd
section
variable {α : Type} {k : Kd α} {w : World} {A : Option Addr} {xs : List α} {m c : Nat}
theorem C_take (h : k.C w A xs.length xs) (hm : m ≤ xs.length) : k.C w A (xs.take m).length (xs.take m) := by
  have hl : (xs.take m).length = m := by rw [List.length_take]; omega
  refine ⟨rfl, by rw [hl]; have := h.2.1; omega, fun hp => ?_⟩
  obtain ⟨ad, e, hc⟩ := h.2.2 (by omega)
  refine ⟨ad, e, fun j p hj => hc j p ?_⟩
  rw [List.getElem?_take] at hj
  split at hj
  · exact hj
  · cases hj
theorem C_drop (h : k.C w A xs.length xs) (hm : m ≤ xs.length) (hc : xs.length ≤ c) : k.C w (if c = m then A else A.map (·.add (m * k.sz))) (xs.drop m).length (xs.drop m) := by
  have hl : (xs.drop m).length = xs.length - m := List.length_drop
  refine ⟨rfl, by rw [hl]; have := h.2.1; omega, fun hp => ?_⟩
  rw [hl] at hp
  obtain ⟨ad, rfl, hcell⟩ := h.2.2 (by omega)
  rw [if_neg (by omega)]
  refine ⟨ad.add (m * k.sz), rfl, fun j p hj => ?_⟩
  rw [List.getElem?_drop] at hj
  obtain ⟨cs, h1, h2, h3⟩ := hcell (m + j) p hj
  refine ⟨cs, h1, h2, fun i u hu => ?_⟩
  rw [add_add, show m * k.sz + (j * k.sz + i) = (m + j) * k.sz + i by rw [Nat.add_mul]; omega]
  exact h3 i u hu
end
end Kd
section
variable {P : Program}
end
theorem string_of_reads {P : Program} {w : World} {src dst e : TypeId} {A : Option Addr} {n c : Nat} {xs : List Int} (hs : P.underlying src = some (.slice e)) (he : P.underlying e = some (.int .u8)) (hd : P.underlying dst = some .string)
    (h : ReadsInt w .u8 A n xs) : (convert src dst (.slice A n c)).run P w = .ok (.string (strOfNums xs)) w := by
  have hn : xs.length = n := h.1
  rcases A with _ | ad
  · have h0 : n = 0 := by
      rcases Nat.eq_zero_or_pos n with h0 | h0
      · exact h0
      · obtain ⟨ad, h', _⟩ := h.2.2 h0
        cases h'
    subst h0
    obtain rfl : xs = [] := List.eq_nil_of_length_eq_zero hn
    exact run_convert_bytes_nil w src e hs he 0 c dst hd
  · have hl : (loadCells ad n).run P w = .ok (xs.map (Value.int .u8)).toArray w := by
      have := run_loadCells_list (P := P) w ad (xs.map (Value.int .u8)) (fun j v hj => by
        have hjl : j < xs.length := by
          rcases Nat.lt_or_ge j xs.length with h' | h'
          · exact h'
          · rw [List.getElem?_eq_none (by rw [List.length_map]; exact h')] at hj
            cases hj
        obtain ⟨ad', he', hc⟩ := h.2.2 (by omega)
        injection he' with he'
        subst he'
        rw [hc j (by omega)]
        rw [List.getElem?_map, List.getElem?_eq_getElem hjl] at hj
        simp at hj
        subst hj
        simp [List.getD_eq_getElem?_getD, List.getElem?_eq_getElem hjl])
      simpa [hn] using this
    rw [run_convert_bytes_string w src dst e _ n c hs he hd, run_bytesToString w ad n c xs hl, foldl_push_bytes]
    simp [strOfNums, ByteArray.empty, ByteArray.emptyWithCapacity]
    rfl
theorem Kd.C_string {P : Program} {w : World} {src dst e : TypeId} {A : Option Addr} {n c : Nat} {xs : List Int} (hs : P.underlying src = some (.slice e)) (he : P.underlying e = some (.int .u8)) (hd : P.underlying dst = some .string)
    (h : (Kd.int .u8).C w A n xs) : (convert src dst (.slice A n c)).run P w = .ok (.string (strOfNums xs)) w :=
  string_of_reads hs he hd (Kd.reads_of_C (enc := Value.int .u8) (d := (0 : Int)) (h1 := fun _ => rfl) h)
theorem below_size {w W : World} (h : Below w.heap.size w W) : w.heap.size ≤ W.heap.size := h.size
theorem below_step {w W w2 : World} (h : Below w.heap.size w W) (k : Below W.heap.size W w2) : Below w.heap.size w w2 := below_then h h.size k
theorem below_set {w W : World} {g j : Nat} {v : Value} (h : Below w.heap.size w W) (hg : w.heap.size ≤ g) : Below w.heap.size w (W.setCell ⟨g, j, none⟩ v) := h.setCell hg _
theorem keep_cell {w W : World} {g : Nat} (h : KeepBut w W g none) {a : Addr} {v : Value} (hc : w.cell? a = some v) (hne : a.block ≠ g) : W.cell? a = some v := by
  have := h.2 a.block (World.block_lt_of_cell? w a hc) hne (by simp)
  simpa [World.cell?, this] using hc
theorem add_block (a : Addr) (i : Nat) : (a.add i).block = a.block := by unfold Addr.add; split <;> rfl
theorem ReadsOf.keep {α : Type} {enc : α → Value} {d : α} {w W : World} {A : Option Addr} {n g : Nat} {xs : List α} (h : ReadsOf enc d w A n xs) (hk : KeepBut w W g none) (hf : ∀ ad, A = some ad → 0 < n → ad.block ≠ g) : ReadsOf enc d W A n xs :=
  ⟨h.1, h.2.1, fun hn => by
    obtain ⟨ad, e, hc⟩ := h.2.2 hn
    exact ⟨ad, e, fun j hj => keep_cell hk (hc j hj) (by rw [add_block]; exact hf ad e hn)⟩⟩
theorem blk_put {w : World} {g : Nat} {t : TypeId} {cs cs' : Array Value} (h : w.heap[g]? = some (.cells cs t (0, 0))) (i : Nat) (u : Value) (e : cs.setIfInBounds i u = cs') : (w.setCell ⟨g, i, none⟩ u).heap[g]? = some (.cells cs' t (0, 0)) := e ▸ blk_set h i u
theorem below_drew1 {base : Nat} {w W : World} (h : Below base w W) : Below base w W.drew := h.drew
namespace Kd
section
variable {α β : Type} {d : Kd α} {d' : Kd β} {e e' base base' n : Nat} {ok ok' : Nat → Prop} {w W w1 W1 : World} {v u : Value} {xs : List α} {ys : List β} {A : Option Addr} {c : Nat}
end
section
variable {α : Type} {enc : α → Value} {h1 : ∀ x, (enc x).oneCell' = true} {w W : World} {A : Option Addr} {n g : Nat} {xs : List α}
theorem C_keep (d : α) (h : (scalar enc h1).C w A n xs) (hk : KeepBut w W g none) (hf : ∀ ad, A = some ad → 0 < n → ad.block ≠ g) : (scalar enc h1).C W A n xs := C_of_reads (ReadsOf.keep (reads_of_C (d := d) h) hk hf)
end
end Kd
namespace Kd
section
variable {α : Type} {d : Kd α} {e base g : Nat} {ok : Nat → Prop} {w w1 : World} {v : Value} {xs : List α} {o : Obj}
end
end Kd
section
variable {P : Program} {ops : Array Oper} {rest : List Oper} {o : Oper} {a : Act} {Q : Exit → Act → World → Prop}
theorem box_event {W : World} (hgd : o.guard = none) {N : Tmp} (_hd : o.dst = some N) {cs : Array Value} {t : TypeId}
    (hrun : (execOp a.eval o).run P W = .ok (.value (.pointer (some ⟨W.heap.size, 0, none⟩))) (W.alloc (.cells cs t (0, 0))))
    (h : ∀ g, g = W.heap.size → ∀ w1, w1.heap[g]? = some (.cells cs t (0, 0)) → Below W.heap.size W w1 → wpList P ops Q rest (a.put o.dst (.pointer (some ⟨g, 0, none⟩))) w1) : wpList P ops Q (o :: rest) a W :=
  Kd.event_run hgd hrun (h _ rfl _ (blk_new W _) (below_alloc (Below.refl _ _) _))
end
namespace Kd
section
variable {α : Type} {enc : α → Value} {h1 : ∀ x, (enc x).oneCell' = true} {e base g n cap : Nat} {ok : Nat → Prop} {W : World} {xs : List α}
end
end Kd
section
variable {P : Program} {ops : Array Oper} {rest : List Oper} {o : Oper} {a : Act} {Q : Exit → Act → World → Prop}
end
namespace Kd
section
variable {α : Type} {enc : α → Value} {h1 : ∀ x, (enc x).oneCell' = true} {e base g n cap : Nat} {ok : Nat → Prop} {W : World} {xs : List α}
end
end Kd
section
variable {P : Program} {ops : Array Oper} {rest : List Oper} {o : Oper} {a : Act} {Q : Exit → Act → World → Prop} {W : World}
theorem gate_dst {N : Tmp} (_hN : o.dst = some N) (h : wpList P ops Q (o :: rest) a W) : wpList P ops Q (o :: rest) a W := h
end
section
variable {P : Program} {ops : Array Oper} {o : Oper} {a : Act} {Q : Exit → Act → World → Prop} {Kc : Act → World → Prop}
theorem event_step {W w1 : World} {v : Value} (hw : Region.wanted o (yielded ops a.tmps) = true) (hrun : (execOp a.eval o).run P W = .ok (.value v) w1) (h : Kc (a.put o.dst v) w1) : if Region.wanted o (yielded ops a.tmps) = true then Oper.wp P o a W Kc Q else Kc (a.put o.dst undef) W := by
  rw [if_pos hw]
  unfold Oper.wp
  rw [hrun]
  exact h
namespace Kd
variable {α : Type}
theorem R_append_rows_step (d : Kd α) {Rr : α → List Value → Prop} {w0 W : World} (base : Nat) (hw : Region.wanted o (yielded ops a.tmps) = true) (s x : Operand) (t e : TypeId) (z : Value) (bytes : Nat)
    (ho : o.op = .call { callee := .builtin .append, args := #[s, x], argTypes := #[t, t] })
    (ht : P.underlying t = some (.slice e)) (hinfo : (P.info? e).map (fun i => (i.zero, i.size, i.bytes)) = some (some z, d.sz, bytes)) (hz : z.cells.size = d.sz) (hs0 : 0 < d.sz) (hb0 : 0 < bytes)
    (v : Value) (xs ys : List α) (A : Option Addr) (m c : Nat) (ok okp : Nat → Prop) (hs : a.eval s = v) (hx : a.eval x = .slice A m c)
    (HO : d.R e W base ok v xs) (HR : ReadsRow Rr d.sz W A m ys) (hKM : ∀ x cs, Rr x cs → d.M W base okp x cs) (hokp : ∀ k, okp k → ok k ∧ some k ≠ v.ownBlock) (hfresh : ∀ k, W.heap.size ≤ k → ok k)
    (HB : Below base w0 W) (hbase : base ≤ W.heap.size) (hl : (xs.length + m) * bytes ≤ 140737488355328)
    (h : ∀ v1 w1, d.R e w1 base ok v1 (xs ++ ys) → Below base w0 w1 → W.grownBy w1 v.ownBlock → (v1.ownBlock = v.ownBlock ∨ ∃ b, v1.ownBlock = some b ∧ W.heap.size ≤ b) → Kc (a.put o.dst v1) w1) :
    if Region.wanted o (yielded ops a.tmps) = true then Oper.wp P o a W Kc Q else Kc (a.put o.dst undef) W := by
  obtain ⟨i0, hi, hzz⟩ := Option.map_eq_some_iff.1 hinfo
  simp only [Prod.mk.injEq] at hzz
  obtain ⟨hz0, hz1, hz2⟩ := hzz
  have hm : ys.length = m := HR.1
  have hlen : xs.length + m ≤ 140737488355328 := Nat.le_trans (Nat.le_mul_of_pos_right _ hb0) hl
  obtain ⟨hok, inner, hown, hr⟩ := HO
  have hrun : ∃ v1 w1, (Builtin.append_ #[t, t] o.type #[v, .slice A m c]).run P W = .ok v1 w1 ∧ d.R e w1 base ok v1 (xs ++ ys) ∧ W.grownBy w1 v.ownBlock ∧ (v1.ownBlock = v.ownBlock ∨ ∃ b, v1.ownBlock = some b ∧ W.heap.size ≤ b) := by
    rcases A with _ | ad
    · have h0 : m = 0 := by
        rcases Nat.eq_zero_or_pos m with h0 | h0
        · exact h0
        · obtain ⟨ad, h, _⟩ := HR.2.2 h0
          cases h
      subst h0
      obtain rfl : ys = [] := List.eq_nil_of_length_eq_zero hm
      refine ⟨v, W, ?_, by rw [List.append_nil]; exact ⟨hok, inner, hown, hr⟩, World.grownBy.refl W _, .inl rfl⟩
      rcases hown.2 with ⟨rfl, hn⟩ | ⟨g, cap, cur, rfl, _, _, hnc, _⟩
      · simp [Builtin.append_, run_underlying ht, sizeOf, typeInfo, hi, Builtin.lenOf, Builtin.firstCells]
      · simp [Builtin.append_, run_underlying ht, sizeOf, typeInfo, hi, Builtin.lenOf, Builtin.firstCells, hnc, storeCells]
    · obtain ⟨news, hnr, hnc⟩ := ReadsRow.inner_ HR
      have hnM : Reps (d.M W base okp) d.sz ys news := hnr.imp_ (fun p c hp => hKM p c hp)
      have hone : ∀ u ∈ news, u.oneCell' = true := by
        intro u hu
        obtain ⟨q, hq, rfl⟩ := List.mem_iff_getElem.1 hu
        have hql : q / d.sz < ys.length := by
          rw [Nat.div_lt_iff_lt_mul hs0]
          rw [← hnM.1]
          exact hq
        have hc := hnM.2 (q / d.sz) _ (List.getElem?_eq_getElem hql)
        refine d.K_one (d.K_of_M hc) _ ?_
        rw [List.mem_iff_getElem?]
        refine ⟨q % d.sz, ?_⟩
        rw [List.getElem?_take, if_pos (Nat.mod_lt _ hs0), List.getElem?_drop, Nat.mul_comm, Nat.div_add_mod, List.getElem?_eq_getElem hq]
      obtain ⟨v1, w1, hrun, h2, hg, _, hat⟩ := run_append_own_at (P := P) W base t o.type e i0 z d.sz bytes ht hi hz0 hz1 hz2 hz hs0 v xs.length inner hown ad m c news (by rw [hnM.1, hm]) hnc hone (by simp only [maxLen]; omega) hl hbase
      have hat' : v1.ownBlock = v.ownBlock ∨ ∃ b, v1.ownBlock = some b ∧ W.heap.size ≤ b := by
        rcases hat with hat | hat
        · exact .inl hat
        · exact .inr ⟨_, hat, Nat.le_refl _⟩
      have hne : ∀ k, some k ≠ v.ownBlock → k < W.heap.size → some k ≠ v1.ownBlock := by
        intro k hk hlt
        rcases hat' with hat | ⟨b, hb, hle⟩
        · rw [hat]; exact hk
        · rw [hb]
          intro he
          injection he with he
          omega
      have step : ∀ {q : α} {c : List Value} {o : Nat → Prop}, d.M W base o q c → (∀ k, o k → ok k ∧ some k ≠ v.ownBlock) → d.M w1 base (fun k => ok k ∧ some k ≠ v1.ownBlock) q c := by
        intro q c o hq ho
        have h1 := d.M_move (w1 := w1) (fun k hk => hg.block k hk.2.2.1 (ho k hk.1).2) (d.M_bound hq)
        exact d.M_mono (fun k hk => ⟨(ho k hk.1).1, hne k (ho k hk.1).2 hk.2.2.1⟩) h1
      refine ⟨v1, w1, hrun, ⟨fun k hk => ?_, inner ++ news, by rw [List.length_append, hm]; exact h2, reps_append (hr.imp_ (fun _ _ hq => step hq (fun _ hk => hk))) (hnM.imp_ (fun _ _ hq => step hq hokp))⟩, hg, hat'⟩
      rcases hat' with hat | ⟨b, hb, hle⟩
      · exact hok k (hat ▸ hk)
      · rw [hb] at hk
        injection hk with hk
        exact hfresh k (by omega)
  obtain ⟨v1, w1, hr1, h1, hg, hat⟩ := hrun
  rw [if_pos hw]
  unfold Oper.wp execOp
  simp only [ho, resolve, invoke, builtin, Sem.run_bind, Sem.run_pure, Result.andThen_ok, List.map_toArray, List.map_cons, List.map_nil, hs, hx, hr1]
  exact h v1 w1 h1 (HB.grown hg hbase (own_base hown)) hg hat
end Kd
end
section
variable {P : Program} {tmps : Array Value} {w : World}
end
namespace Kd
section
variable {P : Program} {α : Type}
end
section
variable {P : Program} {ops : Array Oper} {rest : List Oper} {o : Oper} {a : Act} {Q : Exit → Act → World → Prop} {Kc : Act → World → Prop} {α : Type}
end
end Kd
end Go.Proofs.YtmjjojbedllmgaaW.PrintWords
end
section
namespace Go.Proofs.YtmjjojbedllmgaaW.PrintLast
section
variable {P : Program} {ops : Array Oper} {Q : Exit → Act → World → Prop} {md : Region.Mode} {S : World → Prop} {ds : List Nat}
def Region.reachB (md : Region.Mode) (ops : Array Oper) (i : Nat) : Nat → Nat → Bool
  | 0, _ => false
  | fuel + 1, d => match ops[d]? with
    | some o => o.after.any fun e => Region.binds md e && (e.on == i || Region.reachB md ops i fuel e.on)
    | none => false
def Region.closedB (md : Region.Mode) (ops : Array Oper) (listed : Array Bool) : Bool :=
  (List.range ops.size).all fun j => !listed.getD j false || match ops[j]? with
    | some o => o.after.all fun e => !Region.binds md e || listed.getD e.on false
    | none => true
def Region.lastB (md : Region.Mode) (ops : Array Oper) (listed : Array Bool) (ds : List Nat) (i : Nat) : Bool :=
  ds.all fun d => listed.getD d true || Region.reachB md ops i ops.size d
def ListedClosed (md : Region.Mode) (ops : Array Oper) (listed : Array Bool) : Prop :=
  ∀ j oj, ops[j]? = some oj → listed.getD j false = true → ∀ e ∈ oj.after, Region.binds md e = true → listed.getD e.on false = true
theorem Region.closedB_spec {listed : Array Bool} (h : Region.closedB md ops listed = true) : ListedClosed md ops listed := by
  intro j oj hj hl e he hb
  have hlt : j < ops.size := (Array.getElem?_eq_some_iff.1 hj).1
  have h1 := List.all_eq_true.1 h j (List.mem_range.2 hlt)
  simp only [hl, hj, Bool.not_true, Bool.false_or] at h1
  have h2 := Array.all_eq_true_iff_forall_mem.1 h1 e he
  simpa [hb] using h2
theorem ListedClosed.set {listed : Array Bool} {i : Nat} (h : ListedClosed md ops listed) (hi : i ∈ Region.ready md ops listed) : ListedClosed md ops (listed.setIfInBounds i true) := by
  obtain ⟨_, oi, hoi, hall⟩ := mem_ready.1 hi
  intro j oj hj hl e he hb
  by_cases hij : i = j
  · subst hij
    have : oj = oi := Option.some.inj (hj.symm.trans hoi)
    subst this
    exact getD_set_true (hall e he hb)
  · rw [getD_set_ne false hij] at hl
    exact getD_set_true (h j oj hj hl e he hb)
theorem Region.reach_listed {listed : Array Bool} {i : Nat} (hc : ListedClosed md ops listed) : ∀ (fuel d : Nat), Region.reachB md ops i fuel d = true → listed.getD d false = true → listed.getD i false = true
  | 0, _, h, _ => by simp [Region.reachB] at h
  | fuel + 1, d, h, hl => by
    unfold Region.reachB at h
    cases ho : ops[d]? with
    | none => rw [ho] at h; simp at h
    | some o =>
      rw [ho] at h
      obtain ⟨e, he, h1⟩ := Array.any_eq_true'.1 h
      simp only [Bool.and_eq_true, Bool.or_eq_true, beq_iff_eq] at h1
      have hle := hc d o ho hl e he h1.1
      rcases h1.2 with h2 | h2
      · rw [← h2]; exact hle
      · exact Region.reach_listed hc fuel e.on h2 hle
theorem Region.reach_not_ready {listed : Array Bool} {i d fuel : Nat} (hc : ListedClosed md ops listed) (hr : Region.reachB md ops i fuel d = true) (hun : listed.getD i true = false) : d ∉ Region.ready md ops listed := by
  intro hd
  obtain ⟨_, o, ho, hall⟩ := mem_ready.1 hd
  have hi : listed.getD i false = true := by
    cases fuel with
    | zero => simp [Region.reachB] at hr
    | succ n =>
      unfold Region.reachB at hr
      rw [ho] at hr
      obtain ⟨e, he, h1⟩ := Array.any_eq_true'.1 hr
      simp only [Bool.and_eq_true, Bool.or_eq_true, beq_iff_eq] at h1
      have hle := hall e he h1.1
      rcases h1.2 with h2 | h2
      · rw [← h2]; exact hle
      · exact Region.reach_listed hc n e.on h2 hle
  rcases Nat.lt_or_ge i listed.size with h' | h'
  · simp [h'] at hun hi
    rw [hun] at hi
    cases hi
  · simp [Array.getElem?_eq_none h'] at hun
def wpAnyLast (P : Program) (md : Region.Mode) (ops : Array Oper) (Q : Exit → Act → World → Prop) (S : World → Prop) (ds : List Nat) : Nat → Array Bool → Act → World → Prop
  | 0, listed, a, w => Region.ready md ops listed = [] ∧ Q .normal a w
  | fuel + 1, listed, a, w =>
    (Region.ready md ops listed = [] → Q .normal a w) ∧
    ∀ i ∈ Region.ready md ops listed, wpOp P ops Q i (fun a' w' => (i ∉ ds → S w → S w') ∧ wpAnyLast P md ops Q S ds fuel (listed.setIfInBounds i true) a' w') a w
theorem wpAny_of_last : ∀ (fuel : Nat) (listed : Array Bool) (a : Act) (w : World), wpAnyLast P md ops Q S ds fuel listed a w → wpAny P md ops Q fuel listed a w
  | 0, _, _, _, h => h
  | fuel + 1, _, _, _, h => ⟨h.1, fun i hi => wpOp_mono (fun a' w' h' => wpAny_of_last fuel _ a' w' h'.2) (h.2 i hi)⟩
theorem wpAnyLast_first {i : Nat} {oi : Oper} {v : Value} (hi : ops[i]? = some oi) (hsel : ∀ (j : Nat) (o : Oper) cs b, ops[j]? = some o → o.op ≠ .select cs b)
    (hQ : ∀ c a w, Q (.panic c) (a.put oi.dst v) w → Q (.panic c) a w) (n : Nat) :
    ∀ (fuel : Nat) (listed : Array Bool) (a : Act) (w : World),
      (∀ j oj, ops[j]? = some oj → j ≠ i → listed.getD j true = false → (∀ e ∈ oj.after, Region.binds md e = true → e.on ≠ i) → oi.apart ops oj = true) →
      ListedClosed md ops listed → (∀ d ∈ ds, listed.getD d true = false → Region.reachB md ops i n d = true) →
      i ∈ Region.ready md ops listed → YieldsIf P ops S oi v a → S w →
      wpAnyLast P md ops Q S ds fuel (listed.setIfInBounds i true) (a.put oi.dst v) w → wpAnyLast P md ops Q S ds (fuel + 1) listed a w := by
  intro fuel
  induction fuel with
  | zero =>
    intro listed a w _ _ _ hr hy hS H
    refine ⟨fun h => (by rw [h] at hr; cases hr), fun j hj => ?_⟩
    by_cases hji : j = i
    · subst hji; exact hy.wpOp hi hS ⟨fun _ h => h, H⟩
    · have := ready_mono hj hji
      rw [H.1] at this
      cases this
  | succ fuel ih =>
    intro listed a w hfree hc hd hr hy hS H
    refine ⟨fun h => (by rw [h] at hr; cases hr), fun j hj => ?_⟩
    by_cases hji : j = i
    · subst hji; exact hy.wpOp hi hS ⟨fun _ h => h, H⟩
    · have h1 := H.2 j (ready_mono hj hji)
      obtain ⟨hjun, oj, hoj, hall⟩ := mem_ready.1 hj
      have hiun := (mem_ready.1 hr).1
      have hnot : ∀ e ∈ oj.after, Region.binds md e = true → e.on ≠ i := fun e he hb heq => by
        have h1 := hall e he hb
        rw [heq] at h1
        rcases Nat.lt_or_ge i listed.size with h' | h'
        · simp [h'] at hiun h1; rw [hiun] at h1; cases h1
        · simp [Array.getElem?_eq_none h'] at h1
      have hjd : j ∉ ds := fun hm => Region.reach_not_ready hc (hd j hm hjun) hiun hj
      have h2 := wpOp_putIf hoj (hfree j oj hoj hji hjun hnot) (fun cs b => hsel i oi cs b hi) (fun cs b => hsel j oj cs b hoj) hQ hy h1
      have hfree' : ∀ k ok, ops[k]? = some ok → k ≠ i → (listed.setIfInBounds j true).getD k true = false →
          (∀ e ∈ ok.after, Region.binds md e = true → e.on ≠ i) → oi.apart ops ok = true := fun k ok hk hki hun hno => by
        refine hfree k ok hk hki ?_ hno
        by_cases hjk : j = k
        · subst hjk; exact hjun
        · rw [getD_set_ne true hjk] at hun; exact hun
      have hd' : ∀ d ∈ ds, (listed.setIfInBounds j true).getD d true = false → Region.reachB md ops i n d = true := fun d hm hun => by
        refine hd d hm ?_
        by_cases hjk : j = d
        · subst hjk; exact hjun
        · rw [getD_set_ne true hjk] at hun; exact hun
      refine wpOp_mono (fun a' w' h3 => ⟨h3.2.1, ih (listed.setIfInBounds j true) a' w' hfree' (hc.set hj) hd' (ready_mono hr (Ne.symm hji)) h3.1 (h3.2.1 hjd hS) ?_⟩) h2
      rw [Array.setIfInBounds_comm _ _ hji]
      exact h3.2.2
theorem wpAnyLast_any {i : Nat} {oi : Oper} {v : Value} (hi : ops[i]? = some oi) (hsel : ∀ (j : Nat) (o : Oper) cs b, ops[j]? = some o → o.op ≠ .select cs b)
    (hQ : ∀ c a w, Q (.panic c) (a.put oi.dst v) w → Q (.panic c) a w) :
    ∀ (fuel : Nat) (listed : Array Bool) (a : Act) (w : World),
      (∀ j oj, ops[j]? = some oj → j ≠ i → listed.getD j true = false → (∀ e ∈ oj.after, Region.binds md e = true → e.on ≠ i) → oi.apart ops oj = true) →
      i ∈ Region.ready md ops listed → Yields P ops oi v a →
      wpAnyLast P md ops Q S ds fuel (listed.setIfInBounds i true) (a.put oi.dst v) w → wpAnyLast P md ops Q S ds (fuel + 1) listed a w := by
  intro fuel
  induction fuel with
  | zero =>
    intro listed a w _ hr hy H
    refine ⟨fun h => (by rw [h] at hr; cases hr), fun j hj => ?_⟩
    by_cases hji : j = i
    · subst hji; exact (hy.yieldsIf (S := fun _ => True)).wpOp hi trivial ⟨fun _ h => h, H⟩
    · have := ready_mono hj hji
      rw [H.1] at this
      cases this
  | succ fuel ih =>
    intro listed a w hfree hr hy H
    refine ⟨fun h => (by rw [h] at hr; cases hr), fun j hj => ?_⟩
    by_cases hji : j = i
    · subst hji; exact (hy.yieldsIf (S := fun _ => True)).wpOp hi trivial ⟨fun _ h => h, H⟩
    · have h1 := H.2 j (ready_mono hj hji)
      obtain ⟨hjun, oj, hoj, hall⟩ := mem_ready.1 hj
      have hiun := (mem_ready.1 hr).1
      have hnot : ∀ e ∈ oj.after, Region.binds md e = true → e.on ≠ i := fun e he hb heq => by
        have h1 := hall e he hb
        rw [heq] at h1
        rcases Nat.lt_or_ge i listed.size with h' | h'
        · simp [h'] at hiun h1; rw [hiun] at h1; cases h1
        · simp [Array.getElem?_eq_none h'] at h1
      have h2 := wpOp_put hoj (hfree j oj hoj hji hjun hnot) (fun cs b => hsel i oi cs b hi) (fun cs b => hsel j oj cs b hoj) hQ hy h1
      have hfree' : ∀ k ok, ops[k]? = some ok → k ≠ i → (listed.setIfInBounds j true).getD k true = false →
          (∀ e ∈ ok.after, Region.binds md e = true → e.on ≠ i) → oi.apart ops ok = true := fun k ok hk hki hun hno => by
        refine hfree k ok hk hki ?_ hno
        by_cases hjk : j = k
        · subst hjk; exact hjun
        · rw [getD_set_ne true hjk] at hun; exact hun
      refine wpOp_mono (fun a' w' h3 => ⟨h3.2.1, ih (listed.setIfInBounds j true) a' w' hfree' (ready_mono hr (Ne.symm hji)) h3.1 ?_⟩) h2
      rw [Array.setIfInBounds_comm _ _ hji]
      exact h3.2.2
theorem wpAnyLast_take {i : Nat} {oi : Oper} {v : Value} {fuel : Nat} {listed : Array Bool} {a : Act} {w : World} (hi : ops[i]? = some oi)
    (hs : Region.noSelect ops = true) (hf : Region.free md ops listed i = true) (hr : (Region.ready md ops listed).contains i = true)
    (hc : Region.closedB md ops listed = true) (hl : Region.lastB md ops listed ds i = true)
    (hQ : ∀ c a w, Q (.panic c) (a.put oi.dst v) w → Q (.panic c) a w) (hy : YieldsIf P ops S oi v a) (hS : S w)
    (h : wpAnyLast P md ops Q S ds fuel (listed.setIfInBounds i true) (a.put oi.dst v) w) : wpAnyLast P md ops Q S ds (fuel + 1) listed a w :=
  wpAnyLast_first hi (Region.noSelect_spec hs) hQ ops.size fuel listed a w (Region.free_spec hi hf) (Region.closedB_spec hc)
    (fun d hm hun => by have := List.all_eq_true.1 hl d hm; rw [hun] at this; simpa using this) (by simpa using hr) hy hS h
theorem wpAnyLast_all {rs : List Nat} {fuel : Nat} {listed : Array Bool} {a : Act} {w : World} (hr : Region.ready md ops listed = rs) (hne : rs ≠ [])
    (h : ∀ i ∈ rs, wpOp P ops Q i (fun a' w' => (i ∉ ds → S w → S w') ∧ wpAnyLast P md ops Q S ds fuel (listed.setIfInBounds i true) a' w') a w) : wpAnyLast P md ops Q S ds (fuel + 1) listed a w :=
  ⟨fun h0 => absurd (hr ▸ h0) hne, hr ▸ h⟩
theorem wpAnyLast_done {listed : Array Bool} {a : Act} {w : World} (hr : Region.ready md ops listed = []) (h : Q .normal a w) :
    ∀ fuel, wpAnyLast P md ops Q S ds fuel listed a w
  | 0 => ⟨hr, h⟩
  | _ + 1 => ⟨fun _ => h, by rw [hr]; simp⟩
theorem wp_region_last {id : Nat} {a : Act} {w : World} (hm : P.follows .mixedOrders = true)
    (h : wpAnyLast P .any ops Q S ds ops.size (Array.replicate ops.size false) a { w with drawn := w.drawn + 1 }) : (Code.region id ops true).wp P Q a w :=
  wp_region_any hm (wpAny_of_last _ _ _ _ h)
end
section
variable {P : Program} {ops : Array Oper} {Q : Exit → Act → World → Prop} {md : Region.Mode} {S : World → Prop} {ds : List Nat}
def AllReadyL (P : Program) (md : Region.Mode) (ops : Array Oper) (Q : Exit → Act → World → Prop) (S : World → Prop) (ds : List Nat) (fuel : Nat) (listed : Array Bool) (a : Act) (w : World) (rs : List Nat) : Prop :=
  ∀ i ∈ rs, wpOp P ops Q i (fun a' w' => (i ∉ ds → S w → S w') ∧ wpAnyLast P md ops Q S ds fuel (listed.setIfInBounds i true) a' w') a w
theorem AllReadyL.nil {fuel : Nat} {listed : Array Bool} {a : Act} {w : World} : AllReadyL P md ops Q S ds fuel listed a w [] := fun _ h => by cases h
theorem AllReadyL.cons {fuel : Nat} {listed : Array Bool} {a : Act} {w : World} {i : Nat} {o : Oper} {rs : List Nat} (ho : ops[i]? = some o) (hd : i ∉ ds)
    (h : ∀ K' : Act → World → Prop, Shut (∀ a w, S w → (S w → wpAnyLast P md ops Q S ds fuel (listed.setIfInBounds i true) a w) → K' a w) → if Region.wanted o (yielded ops a.tmps) = true then Oper.wp P o a w K' Q else K' (a.put o.dst undef) w)
    (hs : AllReadyL P md ops Q S ds fuel listed a w rs) : AllReadyL P md ops Q S ds fuel listed a w (i :: rs) := fun j hj => by
  rcases List.mem_cons.1 hj with rfl | hj
  · exact wpOp_step ho (fun K' hK => h K' (fun a w hS hW => hK a w ⟨fun _ _ => hS, hW hS⟩))
  · exact hs j hj
theorem wpAnyLast_ready {rs : List Nat} {fuel : Nat} {listed : Array Bool} {a : Act} {w : World} (hr : Region.ready md ops listed = rs) (hne : rs ≠ [])
    (h : AllReadyL P md ops Q S ds fuel listed a w rs) : wpAnyLast P md ops Q S ds (fuel + 1) listed a w := wpAnyLast_all hr hne h
theorem start_ {id n : Nat} {a : Act} {w : World} (l : Array Bool) (hm : P.follows .mixedOrders = true) (hn : ops.size = n) (hl : Array.replicate n false = l) (hS : S w.drew)
    (h : S w.drew → wpAnyLast P .any ops Q S ds n l a w.drew) : (Code.region id ops true).wp P Q a w := by
  subst hn
  subst hl
  exact wp_region_last hm (h hS)
def takeB (md : Region.Mode) (ops : Array Oper) (ds : List Nat) (l l' : Array Bool) (i : Nat) : Bool :=
  Region.noSelect ops && Region.free md ops l i && (Region.ready md ops l).contains i && Region.closedB md ops l && Region.lastB md ops l ds i && (l.setIfInBounds i true == l')
theorem take_ {i : Nat} {N : Option Tmp} {oi : Oper} {v : Value} {fuel : Nat} {l : Array Bool} {a : Act} {w : World} (l' : Array Bool) (hi : ops[i]? = some oi) (hN : oi.dst = N) (hc : takeB md ops ds l l' i = true)
    (hQ : ∀ c a w, Q (.panic c) (a.put oi.dst v) w → Q (.panic c) a w) (hy : YieldsIf P ops S oi v a) (hS : S w) {a' : Act} (ha : a.put N v = a')
    (h : wpAnyLast P md ops Q S ds fuel l' a' w) : wpAnyLast P md ops Q S ds (fuel + 1) l a w := by
  subst ha
  subst hN
  simp only [takeB, Bool.and_eq_true, beq_iff_eq] at hc
  obtain ⟨⟨⟨⟨⟨h1, h2⟩, h3⟩, h4⟩, h5⟩, h6⟩ := hc
  subst h6
  exact wpAnyLast_take hi h1 h2 h3 h4 h5 hQ hy hS h
def anyB (md : Region.Mode) (ops : Array Oper) (l l' : Array Bool) (i : Nat) : Bool :=
  Region.noSelect ops && Region.free md ops l i && (Region.ready md ops l).contains i && (l.setIfInBounds i true == l')
theorem pure_ {i : Nat} {N : Option Tmp} {oi : Oper} {v : Value} {fuel : Nat} {l : Array Bool} {a : Act} {w : World} (l' : Array Bool) (hi : ops[i]? = some oi) (hN : oi.dst = N) (hc : anyB md ops l l' i = true)
    (hQ : ∀ c a w, Q (.panic c) (a.put oi.dst v) w → Q (.panic c) a w) (hy : Yields P ops oi v a) {a' : Act} (ha : a.put N v = a')
    (h : wpAnyLast P md ops Q S ds fuel l' a' w) : wpAnyLast P md ops Q S ds (fuel + 1) l a w := by
  subst ha
  subst hN
  simp only [anyB, Bool.and_eq_true, beq_iff_eq] at hc
  obtain ⟨⟨⟨h1, h2⟩, h3⟩, h6⟩ := hc
  subst h6
  exact wpAnyLast_any hi (Region.noSelect_spec h1) hQ fuel l a w (Region.free_spec hi h2) (by simpa using h3) hy h
def readyB (md : Region.Mode) (ops : Array Oper) (l l' : Array Bool) (i : Nat) : Bool := (Region.ready md ops l == [i]) && (l.setIfInBounds i true == l')
theorem one_ {i : Nat} {N : Option Tmp} {oi : Oper} {fuel : Nat} {l : Array Bool} {a : Act} {w : World} (l' : Array Bool) (hi : ops[i]? = some oi) (hN : oi.dst = N) (hc : readyB md ops l l' i = true) (hd : i ∉ ds)
    (h : ∀ K : Act → World → Prop, Shut (∀ a' w', S w' → (S w' → wpAnyLast P md ops Q S ds fuel l' a' w') → K a' w') → if Region.wanted oi (yielded ops a.tmps) = true then Oper.wp P oi a w K Q else K (a.put N undef) w) :
    wpAnyLast P md ops Q S ds (fuel + 1) l a w := by
  subst hN
  simp only [readyB, Bool.and_eq_true, beq_iff_eq] at hc
  obtain ⟨h1, h2⟩ := hc
  subst h2
  exact wpAnyLast_ready h1 (by simp) (AllReadyL.cons hi hd (fun K hK => h K hK) AllReadyL.nil)
theorem done_ {l : Array Bool} {a : Act} {w : World} {n : Nat} (hr : (Region.ready md ops l == []) = true) (h : Q .normal a w) : wpAnyLast P md ops Q S ds n l a w := wpAnyLast_done (by simpa using hr) h n
theorem two_ {i j : Nat} {Ni Nj : Option Tmp} {oi oj : Oper} {fuel : Nat} {l : Array Bool} {a : Act} {w : World} (li lj : Array Bool) (hi : ops[i]? = some oi) (hj : ops[j]? = some oj) (hNi : oi.dst = Ni) (hNj : oj.dst = Nj)
    (hc : (Region.ready md ops l == [i, j] && l.setIfInBounds i true == li && l.setIfInBounds j true == lj) = true) (hdi : i ∉ ds) (hdj : j ∉ ds)
    (h1 : ∀ K : Act → World → Prop, Shut (∀ a' w', S w' → (S w' → wpAnyLast P md ops Q S ds fuel li a' w') → K a' w') → if Region.wanted oi (yielded ops a.tmps) = true then Oper.wp P oi a w K Q else K (a.put Ni undef) w)
    (h2 : ∀ K : Act → World → Prop, Shut (∀ a' w', S w' → (S w' → wpAnyLast P md ops Q S ds fuel lj a' w') → K a' w') → if Region.wanted oj (yielded ops a.tmps) = true then Oper.wp P oj a w K Q else K (a.put Nj undef) w) :
    wpAnyLast P md ops Q S ds (fuel + 1) l a w := by
  subst hNi
  subst hNj
  simp only [Bool.and_eq_true, beq_iff_eq] at hc
  obtain ⟨⟨h3, h4⟩, h5⟩ := hc
  subst h4
  subst h5
  exact wpAnyLast_ready h3 (by simp) (AllReadyL.cons hi hdi (fun K hK => h1 K hK) (AllReadyL.cons hj hdj (fun K hK => h2 K hK) AllReadyL.nil))
def putAll : Act → List (Tmp × Value) → Act
  | a, [] => a
  | a, (n, v) :: r => putAll (a.put (some n) v) r
theorem join_ {σ : Type} {fuel : Nat} {l : Array Bool} {a : Act} {w : World} (fuel' : Nat) (l' : Array Bool) (ns : σ → List (Tmp × Value)) (F : σ → World → Prop)
    (hcont : ∀ s w', F s w' → wpAnyLast P md ops Q S ds fuel' l' (putAll a (ns s)) w')
    (h : (∀ s w', F s w' → wpAnyLast P md ops Q S ds fuel' l' (putAll a (ns s)) w') → wpAnyLast P md ops Q S ds fuel l a w) : wpAnyLast P md ops Q S ds fuel l a w := h hcont
theorem norm_ {fuel : Nat} {l : Array Bool} {a a' : Act} {w : World} (ha : a = a') (h : wpAnyLast P md ops Q S ds fuel l a' w) : wpAnyLast P md ops Q S ds fuel l a w := by
  subst ha
  exact h
theorem call_ {oi : Oper} {N : Option Tmp} {a : Act} {w : World} {K : Act → World → Prop} (f : FuncId) (args : Array Value) (hw : Region.wanted oi (yielded ops a.tmps) = true) (hN : oi.dst = N) (hrun : (execOp a.eval oi).run P w = .ok (.enter f args) w)
    (h : Calls P f args w fun e w' => ∃ v, e = .returned v ∧ K (a.put N v) w') : if Region.wanted oi (yielded ops a.tmps) = true then Oper.wp P oi a w K Q else K (a.put N undef) w := by
  rw [if_pos hw]
  subst hN
  unfold Oper.wp
  rw [hrun, Oper.upon_enter]
  refine h.mono fun e w'' hh => ?_
  obtain ⟨v, rfl, hk⟩ := hh
  exact hk
theorem enters_ {f : FuncId} {fn : Func} (hf : P.funcs[f]? = some fn) (hname : (fn.name == "runtime.NumGoroutine") = false) (hb : fn.body.isSome = true) (args : Array Value) (w : World) : (callFunc f args).run P w = .ok (.enter f args) w := by
  have h1 : fn.name ≠ "runtime.NumGoroutine" := by simpa using hname
  obtain ⟨c, hc⟩ := Option.isSome_iff_exists.1 hb
  simp [callFunc, hf, h1, hc]
theorem goes_ {oi : Oper} {N : Option Tmp} {a : Act} {w : World} {K : Act → World → Prop} {f : FuncId} {fn : Func} {as_ : Array Operand} {ts : Array TypeId} (hf : P.funcs[f]? = some fn) (hname : (fn.name == "runtime.NumGoroutine") = false) (hb : fn.body.isSome = true) (args : Array Value)
    (hw : Region.wanted oi (yielded ops a.tmps) = true) (hN : oi.dst = N) (hop : oi.op = .call { callee := .value (.func f), args := as_, argTypes := ts }) (hargs : as_.map a.eval = args)
    (h : Calls P f args w fun e w' => ∃ v, e = .returned v ∧ K (a.put N v) w') : if Region.wanted oi (yielded ops a.tmps) = true then Oper.wp P oi a w K Q else K (a.put N undef) w := by
  refine call_ f args hw hN ?_ h
  have he := enters_ hf hname hb args w
  unfold execOp
  simp [hop, resolve, Deferred.ofValue, invoke, Act.eval, hargs, he]
theorem goesL_ {rest : List Oper} {oi : Oper} {a : Act} {w : World} (N : Option Tmp) (hd : oi.dst = N) (hg : oi.guard = none) {f : FuncId} {fn : Func} {as_ : Array Operand} {ts : Array TypeId} (hf : P.funcs[f]? = some fn) (hname : (fn.name == "runtime.NumGoroutine") = false) (hb : fn.body.isSome = true) (args : Array Value)
    (hop : oi.op = .call { callee := .value (.func f), args := as_, argTypes := ts }) (hargs : as_.map a.eval = args)
    (h : Calls P f args w fun e w' => ∃ v, e = .returned v ∧ wpList P ops Q rest (a.put N v) w') : wpList P ops Q (oi :: rest) a w := by
  refine wpList_plain hg fun K hK => ?_
  have he := enters_ hf hname hb args w
  have hrun : (execOp a.eval oi).run P w = .ok (.enter f args) w := by
    unfold execOp
    simp [hop, resolve, Deferred.ofValue, invoke, Act.eval, hargs, he]
  unfold Oper.wp
  rw [hrun, Oper.upon_enter]
  refine h.mono fun e w'' hh => ?_
  obtain ⟨v, rfl, hk⟩ := hh
  subst hd
  exact hK _ _ hk
theorem i64_w (n : Int) : IntKind.i64.wrap n = Go.RowKit.wrap64 n := by unfold Go.RowKit.wrap64; exact IntKind.wrap_i64 n
end
end Go.Proofs.YtmjjojbedllmgaaW.PrintLast
end
section
namespace Go.Proofs.YtmjjojbedllmgaaW.PrintLast
open Go.Proofs.YtmjjojbedllmgaaW.PrintWords (Aside0)
def needsOf (md : Region.Mode) (o : Oper) : List Nat := (o.after.toList.filter (fun e => Region.binds md e)).map (fun e => e.on)
def clashOf (md : Region.Mode) (ops : Array Oper) (i : Nat) (oi : Oper) : List Nat := (List.range ops.size).filter fun j => !(j == i) && match ops[j]? with
  | some oj => !(oj.after.any (fun e => Region.binds md e && e.on == i) || oi.apart ops oj)
  | none => false
def rtab (md : Region.Mode) (ops : Array Oper) : Bool × List (List Nat × List Nat) := (Region.noSelect ops, (List.range ops.size).map fun i => match ops[i]? with
  | some o => (needsOf md o, clashOf md ops i o)
  | none => ([], []))
def readyAt (T : List (List Nat × List Nat)) (l : List Bool) (i : Nat) : Bool := !l.getD i true && match T[i]? with
  | some r => r.1.all (fun j => l.getD j false)
  | none => false
def readyT (T : List (List Nat × List Nat)) (l : List Bool) : List Nat := (List.range T.length).filter (readyAt T l)
def freeT (T : List (List Nat × List Nat)) (l : List Bool) (i : Nat) : Bool := match T[i]? with
  | some r => r.2.all (fun j => l.getD j true)
  | none => false
def closedT (T : List (List Nat × List Nat)) (l : List Bool) : Bool := (List.range T.length).all fun j => !l.getD j false || match T[j]? with
  | some r => r.1.all (fun k => l.getD k false)
  | none => true
def reachT (T : List (List Nat × List Nat)) (i : Nat) : Nat → Nat → Bool
  | 0, _ => false
  | fuel + 1, d => match T[d]? with
    | some r => r.1.any fun j => j == i || reachT T i fuel j
    | none => false
def lastT (T : List (List Nat × List Nat)) (l : List Bool) (ds : List Nat) (i : Nat) : Bool := ds.all fun d => l.getD d true || reachT T i T.length d
section
variable {md : Region.Mode} {ops : Array Oper} {T : Bool × List (List Nat × List Nat)} {l l' li lj lk : Array Bool} {ds : List Nat} {i j k : Nat}
theorem gd (l : Array Bool) (j : Nat) (b : Bool) : l.getD j b = l.toList.getD j b := by simp [Array.getD_eq_getD_getElem?, List.getD_eq_getElem?_getD]
theorem needs_all (o : Oper) (p : Nat → Bool) : o.after.all (fun e => !Region.binds md e || p e.on) = (needsOf md o).all p := by
  unfold needsOf
  rw [← Array.all_toList]
  induction o.after.toList with
  | nil => rfl
  | cons e r ih =>
    rw [List.all_cons, ih, List.filter_cons]
    cases h : Region.binds md e <;> simp
theorem needs_any (o : Oper) (p : Nat → Bool) : o.after.any (fun e => Region.binds md e && p e.on) = (needsOf md o).any p := by
  unfold needsOf
  rw [← Array.any_toList]
  induction o.after.toList with
  | nil => rfl
  | cons e r ih =>
    rw [List.any_cons, ih, List.filter_cons]
    cases h : Region.binds md e <;> simp
theorem rtab_length : (rtab md ops).2.length = ops.size := by simp [rtab]
theorem rtab_some {o : Oper} (h : ops[i]? = some o) : (rtab md ops).2[i]? = some (needsOf md o, clashOf md ops i o) := by
  have hi := (Array.getElem?_eq_some_iff.1 h).1
  unfold rtab
  rw [List.getElem?_map, List.getElem?_range hi, Option.map_some, h]
theorem rtab_none (h : ops[i]? = none) : (rtab md ops).2[i]? = none := by
  have hi : ops.size ≤ i := Array.getElem?_eq_none_iff.1 h
  exact List.getElem?_eq_none (by rw [rtab_length]; exact hi)
theorem readyAt_eq : readyAt (rtab md ops).2 l.toList i = (!l.getD i true && ((ops[i]?).map (·.after.all fun e => !Region.binds md e || l.getD e.on false)).getD false) := by
  unfold readyAt
  rw [gd]
  cases h : ops[i]? with
  | none => rw [rtab_none h]; rfl
  | some o =>
    rw [rtab_some h]
    simp only [Option.map_some, Option.getD_some]
    rw [← needs_all]
    simp only [gd]
theorem ready_eq : Region.ready md ops l = readyT (rtab md ops).2 l.toList := by
  unfold Region.ready readyT
  rw [rtab_length]
  refine List.filter_congr (fun i _ => ?_)
  rw [readyAt_eq]
theorem free_eq : Region.free md ops l i = freeT (rtab md ops).2 l.toList i := by
  unfold Region.free freeT
  cases h : ops[i]? with
  | none => rw [rtab_none h]
  | some oi =>
    rw [rtab_some h]
    simp only [clashOf]
    rw [List.all_filter]
    congr 1
    funext j
    rw [gd]
    cases hj : ops[j]? with
    | none => cases (j == i) <;> cases (l.toList.getD j true) <;> simp
    | some oj =>
      cases (j == i) <;> cases (l.toList.getD j true) <;> cases (oj.after.any (fun e => Region.binds md e && e.on == i) || oi.apart ops oj) <;> simp_all
theorem closed_eq : Region.closedB md ops l = closedT (rtab md ops).2 l.toList := by
  unfold Region.closedB closedT
  rw [rtab_length]
  congr 1
  funext j
  rw [gd]
  cases h : ops[j]? with
  | none => rw [rtab_none h]
  | some o =>
    rw [rtab_some h]
    simp only
    rw [← needs_all]
    simp only [gd]
theorem reach_eq : ∀ (fuel d : Nat), Region.reachB md ops i fuel d = reachT (rtab md ops).2 i fuel d
  | 0, _ => rfl
  | fuel + 1, d => by
    unfold Region.reachB reachT
    cases h : ops[d]? with
    | none => rw [rtab_none h]
    | some o =>
      rw [rtab_some h]
      simp only
      rw [← needs_any]
      congr 1
      funext e
      rw [reach_eq fuel]
theorem last_eq : Region.lastB md ops l ds i = lastT (rtab md ops).2 l.toList ds i := by
  unfold Region.lastB lastT
  rw [rtab_length]
  congr 1
  funext d
  rw [gd, reach_eq]
theorem readyAt_mem (h : readyAt T.2 l.toList i = true) (hT : rtab md ops = T) : (Region.ready md ops l).contains i = true := by
  subst hT
  rw [ready_eq]
  unfold readyT
  rw [List.contains_iff_mem, List.mem_filter, List.mem_range]
  refine ⟨?_, h⟩
  unfold readyAt at h
  rw [Bool.and_eq_true] at h
  cases hq : (rtab md ops).2[i]? with
  | none => rw [hq] at h; simp at h
  | some r => exact (List.getElem?_eq_some_iff.1 hq).1
theorem set_of (h : (l.toList.set i true == l'.toList) = true) : (l.setIfInBounds i true == l') = true := by
  rw [beq_iff_eq] at h ⊢
  apply Array.ext'
  rw [Array.toList_setIfInBounds]
  exact h
def anyT (T : Bool × List (List Nat × List Nat)) (l l' : List Bool) (i : Nat) : Bool := T.1 && freeT T.2 l i && readyAt T.2 l i && (l.set i true == l')
theorem any_of (hT : rtab md ops = T) (h : anyT T l.toList l'.toList i = true) : anyB md ops l l' i = true := by
  simp only [anyT, Bool.and_eq_true] at h
  obtain ⟨⟨⟨h1, h2⟩, h3⟩, h4⟩ := h
  have h5 := readyAt_mem h3 hT
  have h6 := set_of h4
  subst hT
  simp only [anyB, Bool.and_eq_true]
  exact ⟨⟨⟨h1, by rw [free_eq]; exact h2⟩, h5⟩, h6⟩
def takeT (T : Bool × List (List Nat × List Nat)) (ds : List Nat) (l l' : List Bool) (i : Nat) : Bool := T.1 && freeT T.2 l i && readyAt T.2 l i && closedT T.2 l && lastT T.2 l ds i && (l.set i true == l')
theorem take_of (hT : rtab md ops = T) (h : takeT T ds l.toList l'.toList i = true) : takeB md ops ds l l' i = true := by
  simp only [takeT, Bool.and_eq_true] at h
  obtain ⟨⟨⟨⟨⟨h1, h2⟩, h3⟩, h4⟩, h5⟩, h6⟩ := h
  have h7 := readyAt_mem h3 hT
  have h8 := set_of h6
  subst hT
  simp only [takeB, Bool.and_eq_true]
  exact ⟨⟨⟨⟨⟨h1, by rw [free_eq]; exact h2⟩, h7⟩, by rw [closed_eq]; exact h4⟩, by rw [last_eq]; exact h5⟩, h8⟩
theorem one_of (hT : rtab md ops = T) (h : (readyT T.2 l.toList == [i] && l.toList.set i true == l'.toList) = true) : readyB md ops l l' i = true := by
  simp only [Bool.and_eq_true] at h
  obtain ⟨h1, h2⟩ := h
  subst hT
  simp only [readyB, Bool.and_eq_true]
  exact ⟨by rw [ready_eq]; exact h1, set_of h2⟩
theorem two_of (hT : rtab md ops = T) (h : (readyT T.2 l.toList == [i, j] && l.toList.set i true == li.toList && l.toList.set j true == lj.toList) = true) : (Region.ready md ops l == [i, j] && l.setIfInBounds i true == li && l.setIfInBounds j true == lj) = true := by
  simp only [Bool.and_eq_true] at h ⊢
  obtain ⟨⟨h1, h2⟩, h3⟩ := h
  subst hT
  exact ⟨⟨by rw [ready_eq]; exact h1, set_of h2⟩, set_of h3⟩
theorem done_of (hT : rtab md ops = T) (h : (readyT T.2 l.toList == []) = true) : (Region.ready md ops l == []) = true := by
  subst hT
  rw [ready_eq]
  exact h
def upM (B : List Nat) (d : Nat) : List Nat → Nat
  | [] => 0
  | n :: r => (2 ^ n ||| (if n < d then B.getD n 0 else 0)) ||| upM B d r
def waitsOk (T : List (List Nat × List Nat)) (B : List Nat) : Bool := (List.range T.length).all fun d => match T[d]? with
  | some r => (B.getD d 0 ||| upM B d r.1) == upM B d r.1
  | none => false
theorem upM_bit {B : List Nat} {d i : Nat} : ∀ {ns : List Nat}, (upM B d ns).testBit i = true → ∃ n ∈ ns, n = i ∨ (n < d ∧ (B.getD n 0).testBit i = true)
  | [], h => by simp [upM] at h
  | n :: r, h => by
    unfold upM at h
    rw [Nat.testBit_or, Nat.testBit_or, Bool.or_eq_true, Bool.or_eq_true] at h
    rcases h with (h | h) | h
    · rw [Nat.testBit_two_pow] at h
      exact ⟨n, List.mem_cons_self, .inl (by simpa using h)⟩
    · by_cases hn : n < d
      · rw [if_pos hn] at h
        exact ⟨n, List.mem_cons_self, .inr ⟨hn, h⟩⟩
      · rw [if_neg hn] at h
        simp at h
    · obtain ⟨m, hm, h2⟩ := upM_bit h
      exact ⟨m, List.mem_cons_of_mem _ hm, h2⟩
theorem reach_bit {T : List (List Nat × List Nat)} {B : List Nat} (hB : waitsOk T B = true) : ∀ (fuel d : Nat), d < fuel → d < T.length → (B.getD d 0).testBit i = true → reachT T i fuel d = true
  | 0, d, h, _, _ => by omega
  | fuel + 1, d, h, hd, hb => by
    have h1 := List.all_eq_true.1 hB d (List.mem_range.2 hd)
    cases hr : T[d]? with
    | none => rw [hr] at h1; simp at h1
    | some r =>
      rw [hr] at h1
      simp only [beq_iff_eq] at h1
      have h2 : (upM B d r.1).testBit i = true := by rw [← h1, Nat.testBit_or, hb, Bool.true_or]
      obtain ⟨n, hn, h3⟩ := upM_bit h2
      unfold reachT
      rw [hr]
      simp only
      rw [List.any_eq_true]
      refine ⟨n, hn, ?_⟩
      rcases h3 with rfl | ⟨h4, h5⟩
      · simp
      · rw [reach_bit hB fuel n (by omega) (by omega) h5, Bool.or_true]
def lastW (T : List (List Nat × List Nat)) (B : List Nat) (l : List Bool) (ds : List Nat) (i : Nat) : Bool := ds.all fun d => l.getD d true || (decide (d < T.length) && (B.getD d 0).testBit i)
def takeW (T : Bool × List (List Nat × List Nat)) (B : List Nat) (ds : List Nat) (l l' : List Bool) (i : Nat) : Bool := T.1 && freeT T.2 l i && readyAt T.2 l i && closedT T.2 l && lastW T.2 B l ds i && (l.set i true == l')
theorem take_ofW {B : List Nat} (hT : rtab md ops = T) (hB : waitsOk T.2 B = true) (h : takeW T B ds l.toList l'.toList i = true) : takeB md ops ds l l' i = true := by
  refine take_of hT ?_
  simp only [takeW, takeT, Bool.and_eq_true] at h ⊢
  obtain ⟨⟨⟨⟨⟨h1, h2⟩, h3⟩, h4⟩, h5⟩, h6⟩ := h
  refine ⟨⟨⟨⟨⟨h1, h2⟩, h3⟩, h4⟩, ?_⟩, h6⟩
  unfold lastW at h5
  unfold lastT
  rw [List.all_eq_true] at h5 ⊢
  intro d hd
  have h7 := h5 d hd
  rw [Bool.or_eq_true, Bool.and_eq_true, decide_eq_true_eq] at h7
  rcases h7 with h7 | ⟨h8, h9⟩
  · rw [h7, Bool.true_or]
  · rw [reach_bit hB _ d h8 h8 h9, Bool.or_true]
theorem with_tabW {P : Program} {Q : Exit → Act → World → Prop} {S : World → Prop} {n : Nat} {a : Act} {w : World} {B : List Nat} (hT : rtab md ops = T) (hB : waitsOk T.2 B = true) (h : Aside0 (rtab md ops = T) → Aside0 (waitsOk T.2 B = true) → wpAnyLast P md ops Q S ds n l a w) : wpAnyLast P md ops Q S ds n l a w := h ⟨hT⟩ ⟨hB⟩
end
def opsIn : Code → Nat → Option (Array Oper)
  | .region id ops _, k => if id == k then some ops else none
  | .seq a b, k => match opsIn a k with
    | some o => some o
    | none => opsIn b k
  | .cond _ a b, k => match opsIn a k with
    | some o => some o
    | none => opsIn b k
  | .block _ c, k => opsIn c k
  | .loop c, k => opsIn c k
  | .scope c, k => opsIn c k
  | .rangeFunc _ _ a b, k => match opsIn a k with
    | some o => some o
    | none => opsIn b k
  | _, _ => none
def opsOf (f : Func) (k : Nat) : Array Oper := ((f.body.bind fun c => opsIn c k)).getD #[]
end Go.Proofs.YtmjjojbedllmgaaW.PrintLast
end
section
namespace Go.Proofs.YtmjjojbedllmgaaW.PrintWords
namespace Kd
end Kd
end Go.Proofs.YtmjjojbedllmgaaW.PrintWords
end
section
namespace Go.Proofs.YtmjjojbedllmgaaW.PrintWords
namespace Kd
end Kd
end Go.Proofs.YtmjjojbedllmgaaW.PrintWords
end
section
namespace Go.Proofs.YtmjjojbedllmgaaW.PrintWords
namespace Kd
end Kd
end Go.Proofs.YtmjjojbedllmgaaW.PrintWords
end
section
namespace Go.Proofs.YtmjjojbedllmgaaW.PrintWords
namespace Kd
end Kd
end Go.Proofs.YtmjjojbedllmgaaW.PrintWords
end
section
namespace Go.Proofs.YtmjjojbedllmgaaW.PrintWords
namespace Kd
end Kd
end Go.Proofs.YtmjjojbedllmgaaW.PrintWords
end
section
namespace Go.Proofs.YtmjjojbedllmgaaW.PrintWords
namespace Kd
end Kd
end Go.Proofs.YtmjjojbedllmgaaW.PrintWords
end
section
namespace Go.Proofs.YtmjjojbedllmgaaW.PrintWords
namespace Foot
end Foot
namespace Kd
end Kd
end Go.Proofs.YtmjjojbedllmgaaW.PrintWords
end
section
namespace Go.Proofs.YtmjjojbedllmgaaW.PrintWords
namespace Kd
end Kd
end Go.Proofs.YtmjjojbedllmgaaW.PrintWords
end
section
namespace Go.Proofs.YtmjjojbedllmgaaW.PrintWords
end Go.Proofs.YtmjjojbedllmgaaW.PrintWords
end
section
namespace Go.Proofs.YtmjjojbedllmgaaW.PrintWords
theorem Reps.one {α : Type} {R : α → List Value → Prop} {ps : List α} {cs : List Value} {p : α} {v : Value} (hp : R p [v]) (h : Reps R 1 ps cs) : Reps R 1 (p :: ps) (v :: cs) := by
  refine ⟨by simp [h.1], fun j q hq => ?_⟩
  cases j with
  | zero =>
    simp only [List.getElem?_cons_zero, Option.some.injEq] at hq
    subst hq
    simpa using hp
  | succ j =>
    simp only [List.getElem?_cons_succ] at hq
    have h1 := h.2 j q hq
    simpa [Nat.mul_one] using h1
end Go.Proofs.YtmjjojbedllmgaaW.PrintWords
end
section
namespace Go.Proofs.YtmjjojbedllmgaaW.PrintWords
namespace Kd
end Kd
end Go.Proofs.YtmjjojbedllmgaaW.PrintWords
end
section
namespace Go.Proofs.YtmjjojbedllmgaaW.PrintMore
open Go.RowKit Go.Proofs.YtmjjojbedllmgaaW.PrintWords
namespace Kd
open Go.Proofs.YtmjjojbedllmgaaW.PrintWords.Kd
end Kd
namespace Kd
open Go.Proofs.YtmjjojbedllmgaaW.PrintWords.Kd
section
variable {α : Type} {d : Kd α} {e base g N : Nat} {ok : Nat → Prop} {W w1 : World} {u v : Value} {xs : List α}
end
end Kd
end Go.Proofs.YtmjjojbedllmgaaW.PrintMore
namespace Go.Proofs.YtmjjojbedllmgaaW.PrintWords
open Go.RowKit
section
variable {P : Program} {ops : Array Oper} {rest : List Oper} {o : Oper} {a : Act} {Q : Exit → Act → World → Prop} {W : World}
theorem gate_callee {f : FuncId} {as_ : Array Operand} {ts : Array TypeId} (_ho : o.op = .call { callee := .value (.func f), args := as_, argTypes := ts }) (h : wpList P ops Q (o :: rest) a W) : wpList P ops Q (o :: rest) a W := h
theorem gate_builtin {b : Builtin} {xs : Array Operand} {ts : Array TypeId} (_ho : o.op = .call { callee := .builtin b, args := xs, argTypes := ts }) (h : wpList P ops Q (o :: rest) a W) : wpList P ops Q (o :: rest) a W := h
end
def shl (k : IntKind) (x y : Int) : Int := k.wrap (x * 2 ^ min y.toNat k.bits)
theorem shl_small {k : IntKind} {x y j : Int} (h : shl k x y = j) (hy : y ≤ k.bits) : k.wrap (x * 2 ^ y.toNat) = j := by rw [← h]; unfold shl; rw [Nat.min_eq_left (by omega)]
namespace Kd
section
variable {α : Type} {d : Kd α} {e base : Nat} {ok : Nat → Prop} {W w1 : World} {v : Value} {xs : List α}
end
section
variable {α : Type} {d : Kd α} {e base g n cap : Nat} {ok oki okp : Nat → Prop} {W : World} {xs : List α} {i : Int} {c : List Value}
end
section
variable {α : Type} {d : Kd α} {e base b b' g N : Nat} {ok ok1 : Nat → Prop} {W W2 w1 : World} {u v : Value} {xs ys : List α} {S : Nat → Prop}
end
end Kd
end Go.Proofs.YtmjjojbedllmgaaW.PrintWords
namespace Go.Proofs.YtmjjojbedllmgaaW.PrintWords
open Go.RowKit
namespace Kd
section
variable {α β : Type} {d : Kd α} {e base base' n m c g N' lo hi : Nat} {ok ok' S : Nat → Prop} {w W w1 : World} {A : Option Addr} {ad : Addr} {u v v1 : Value} {xs : List α}
end
end Kd
end Go.Proofs.YtmjjojbedllmgaaW.PrintWords
end
section
namespace Go.Proofs.Ytmjjojbedllmgaa.G
open Go.RowKit Go.Proofs.YtmjjojbedllmgaaW.PrintWords Go.Proofs.YtmjjojbedllmgaaW.PrintLast Go.Proofs.YtmjjojbedllmgaaW.PrintMore
set_option linter.unusedVariables false
set_option linter.unusedSimpArgs false
theorem info5 : (Try.prog.info? 5).map (fun i => (i.zero, i.size, i.bytes)) = some (some (.int .u8 0), 1, 1) := by kernel_rfl
end Go.Proofs.Ytmjjojbedllmgaa.G
end
section
namespace Go.Proofs.Ytmjjojbedllmgaa.Pairs
open Go.RowKit Go.Proofs.Ytmjjojbedllmgaa.G
open Go.Proofs.YtmjjojbedllmgaaW.PrintWords Go.Proofs.YtmjjojbedllmgaaW.PrintLast Go.Proofs.YtmjjojbedllmgaaW.PrintMore
set_option linter.unusedVariables false
def num (v : Value) : Int := match v with | .int _ x => x | _ => 0
theorem open_bytes {H : Type} {enc : TypeId × Value → H} {w : World} {base : Nat} {spare : Nat → Bool} {held : Bool} {v : Value} {d : DataW H} {p : List MemPlace}
    (hv : ∃ a len cap, v = .slice a len cap) (h : DataW.Trod enc Try.prog w base spare held 22 v d p) :
    ∃ (A : Option Addr) (l : List Int) (c : Nat), v = .slice A l.length c ∧ Kd.C (Kd.int .u8) w A l.length l ∧ l.length ≤ c ∧ l.length ≤ 9223372036854775807 ∧ ∀ x ∈ l, 0 ≤ x ∧ x ≤ 255 := by
  obtain ⟨a, len, cap, rfl⟩ := hv
  obtain ⟨fuel, hf⟩ := h
  have hf' : DataW.trod enc Try.prog w base spare held fuel 22 [.slice a len cap] = some (d, p) := hf
  rcases Go.Deep.open_slice1 Try.underlying22 (by kernel_rfl) hf' with ⟨e, _⟩ | ⟨a', len', cap', m, n, V, D, Pl, e, hb, hl, hm, hmm, _, hx⟩
  · simp only [List.cons.injEq, Value.slice.injEq, and_true] at e
    obtain ⟨rfl, rfl, rfl⟩ := e
    refine ⟨none, [], 0, rfl, ⟨rfl, by simp, fun z => absurd z (by simp)⟩, by simp, by simp, fun x hx => absurd hx (by simp)⟩
  · simp only [List.cons.injEq, Value.slice.injEq, and_true] at e
    obtain ⟨rfl, rfl, rfl⟩ := e
    have hlm : len ≤ m := by rw [hmm]; split <;> omega
    have hmax : len ≤ 9223372036854775807 := by
      have : maxLen = 9223372036854775807 := rfl
      omega
    have each : ∀ i, i < len → V i = .int .u8 (num (V i)) ∧ (0 ≤ num (V i) ∧ num (V i) ≤ 255) := by
      intro i hi
      obtain ⟨_, h0⟩ := hx i (by omega)
      obtain ⟨x, ex, wx⟩ := Frame.cell_int (k := .u8) (by kernel_rfl) ⟨_, _, h0⟩
      rw [ex]
      refine ⟨rfl, ?_⟩
      have hmin : IntKind.u8.min = 0 := rfl
      have hmax : IntKind.u8.max = 255 := rfl
      simp only [Lit.wf, Bool.and_eq_true, decide_eq_true_eq] at wx
      show 0 ≤ x ∧ x ≤ 255
      omega
    refine ⟨some a', (List.range len).map (fun i => num (V i)), cap, by simp, ?_, by simpa using hl, by simpa using hmax, ?_⟩
    · refine ⟨rfl, by simpa using hmax, fun _ => ⟨a', rfl, fun j q hq => ?_⟩⟩
      have hj : j < len := by
        have := (List.getElem?_eq_some_iff.1 hq).1
        simpa using this
      have eq : q = num (V j) := by
        rw [List.getElem?_map, List.getElem?_range hj] at hq
        simpa using hq.symm
      subst eq
      obtain ⟨c0, _⟩ := hx j (by omega)
      obtain ⟨e0, _⟩ := each j hj
      refine ⟨[.int .u8 (num (V j))], rfl, rfl, fun i u hu => ?_⟩
      match i, hu with
      | 0, hu =>
        simp only [List.getElem?_cons_zero, Option.some.injEq] at hu
        rw [← hu, ← e0]
        have e1 : (Kd.int .u8).sz = 1 := rfl
        rw [e1, Nat.mul_one]
        exact c0
      | i + 1, hu => simp at hu
    · intro x hx'
      rw [List.mem_map] at hx'
      obtain ⟨i, hi, rfl⟩ := hx'
      exact (each i (List.mem_range.1 hi)).2
end Go.Proofs.Ytmjjojbedllmgaa.Pairs
end
section
namespace Go.Proofs.Ytmjjojbedllmgaa.Wish
open Go.RowKit Go.Proofs.Ytmjjojbedllmgaa.G
open Go.Proofs.YtmjjojbedllmgaaW.PrintWords Go.Proofs.YtmjjojbedllmgaaW.PrintLast Go.Proofs.YtmjjojbedllmgaaW.PrintMore
theorem cell_bytes {H : Type} {enc : TypeId × Value → H} {w : World} {base : Nat} {spare : Nat → Bool} {held : Bool} {c : Value}
    (h : ∃ (n : Nat) (y : DataW H × List MemPlace), DataW.trod enc Try.prog w base spare held n 22 [c] = some y) :
    ∃ (A : Option Addr) (l : List Int) (cap : Nat), c = .slice A l.length cap ∧ Kd.C (Kd.int .u8) w A l.length l ∧ l.length ≤ cap ∧ l.length ≤ 9223372036854775807 ∧ ∀ x ∈ l, 0 ≤ x ∧ x ≤ 255 := by
  obtain ⟨n, ⟨d, p⟩, h⟩ := h
  have hv : ∃ a len cap, c = .slice a len cap := by
    rcases Go.Deep.open_slice1 Try.underlying22 (by kernel_rfl) h with ⟨e, _⟩ | ⟨a', len', cap', m, n, V, D, Pl, e, _⟩
    · simp at e; exact ⟨_, _, _, e⟩
    · simp at e; exact ⟨_, _, _, e⟩
  obtain ⟨a, len, cap, rfl⟩ := hv
  exact Pairs.open_bytes ⟨a, len, cap, rfl⟩ ⟨n, h⟩
end Go.Proofs.Ytmjjojbedllmgaa.Wish
end
section
namespace Go.Proofs.Ytmjjojbedllmgaa.Hand
open Go.RowKit
open Go.Proofs.Ytmjjojbedllmgaa.G
open Go.Proofs.YtmjjojbedllmgaaW.PrintWords Go.Proofs.YtmjjojbedllmgaaW.PrintLast Go.Proofs.YtmjjojbedllmgaaW.PrintMore
set_option linter.unusedVariables false
set_option linter.unusedSimpArgs false
def RowL (w : World) (g : Nat) (L : List Int) : Prop := w.heap[g]? = some (.cells (L.map (Value.int .u8)).toArray 5 (0, 0))
theorem RowL.put {w : World} {g : Nat} {L : List Int} (h : RowL w g L) (i : Nat) (x : Int) : RowL (w.setCell ⟨g, i, none⟩ (.int .u8 x)) g (L.set i x) :=
  blk_put h i (.int .u8 x) (by simp [List.map_set])
theorem RowL.far {w : World} {g b : Nat} {L : List Int} (h : RowL w g L) (hb : ¬ g = b) (i : Nat) (v : Value) : RowL (w.setCell ⟨b, i, none⟩ v) g L := blk_far h hb v
theorem RowL.cell {w : World} {g : Nat} {L : List Int} (h : RowL w g L) (i : Nat) (hi : i < L.length) : w.cell? ⟨g, i, none⟩ = some (.int .u8 (rd L i)) := by
  have q := blk_cell h i
  rw [q]
  simp [rd, hi]
theorem RowL.frozen {w : World} {g : Nat} {L : List Int} (h : RowL w g L) (i : Nat) : w.frozen? ⟨g, i, none⟩ = false := blk_frozen h i
theorem RowL.lt {w : World} {g : Nat} {L : List Int} (h : RowL w g L) : g < w.heap.size := blk_lt h
theorem RowL.reads {w : World} {g : Nat} {L : List Int} (h : RowL w g L) (n : Nat) (hn : n ≤ L.length) (hm : n ≤ 9223372036854775807) : Kd.C (Kd.int .u8) w (some ⟨g, 0, none⟩) n (L.take n) := by
  refine Kd.C_of_reads (d := (0 : Int)) ⟨by simp; omega, hm, fun h0 => ⟨_, rfl, fun j hj => ?_⟩⟩
  have q := h.cell j (by omega)
  have e : (L.take n).getD j 0 = rd L j := by simp [rd, List.getD_eq_getElem?_getD, List.getElem?_take, hj]
  rw [e]
  have e2 : (⟨g, 0, none⟩ : Addr).add j = ⟨g, j, none⟩ := by
    simp only [Addr.add]
    split
    · rename_i hz; rw [hz]
    · simp
  rw [e2]
  exact q
theorem RowL.row {w : World} {g base : Nat} {L : List Int} (h : RowL w g L) (hb : base ≤ g) (hm : L.length ≤ maxLen) : Kd.R (Kd.int .u8) 5 w base (fun _ => True) (.slice (some ⟨g, 0, none⟩) L.length L.length) L := by
  refine Kd.R_of_own ⟨by simp [encs], Or.inr ⟨g, L.length, _, rfl, hb, h, Nat.le_refl _, hm, by simp, ?_⟩⟩ (fun _ _ => trivial)
  simp only [encs]
  exact List.take_of_length_le (by simp)
end Go.Proofs.Ytmjjojbedllmgaa.Hand
end
section
namespace Go.Proofs.Ytmjjojbedllmgaa.Hand
open Go.RowKit
open Go.Proofs.Ytmjjojbedllmgaa.G
open Go.Proofs.YtmjjojbedllmgaaW.PrintWords Go.Proofs.YtmjjojbedllmgaaW.PrintLast Go.Proofs.YtmjjojbedllmgaaW.PrintMore
set_option linter.unusedVariables false
set_option linter.unusedSimpArgs false
structure Mp where
  k : Int
  o : Bool
  l : Int
  h : Int
  r : Int
  md : Bool
structure Ck where
  s : Int
  m : Int
  h : Int
  d : Int
  ht : Bool
  cy : Bool
structure Hd where
  t : ByteArray
  kd : Int
  mp : Int
  rm : Bool
  bt : Bool
  ck : Bool
  bk : Int
  sz : Int
  sm : Int
  wh : Int
structure Ct where
  mp : Mp
  lv : Ck
  hd : Ck
  last : Int
  hdr : Hd
  img : List Int
  ram : List Int
structure Ad where
  b : Nat
  gi : Nat
  ci : Nat
  gr : Nat
abbrev Mp.v (m : Mp) : Value := .agg #[.int .i64 m.k, .bool m.o, .int .u8 m.l, .int .u8 m.h, .int .u8 m.r, .bool m.md]
abbrev Ck.v (c : Ck) : Value := .agg #[.int .u8 c.s, .int .u8 c.m, .int .u8 c.h, .int .u16 c.d, .bool c.ht, .bool c.cy]
abbrev Hd.v (h : Hd) : Value := .agg #[.string h.t, .int .u8 h.kd, .int .i64 h.mp, .bool h.rm, .bool h.bt, .bool h.ck, .int .i64 h.bk, .int .i64 h.sz, .int .u8 h.sm, .int .u16 h.wh]
def Ct.cells (s : Ct) (a : Ad) : List Value := [.int .i64 s.mp.k, .bool s.mp.o, .int .u8 s.mp.l, .int .u8 s.mp.h, .int .u8 s.mp.r, .bool s.mp.md, .int .u8 s.lv.s, .int .u8 s.lv.m, .int .u8 s.lv.h, .int .u16 s.lv.d, .bool s.lv.ht, .bool s.lv.cy, .int .u8 s.hd.s, .int .u8 s.hd.m, .int .u8 s.hd.h, .int .u16 s.hd.d, .bool s.hd.ht, .bool s.hd.cy, .int .u8 s.last, .string s.hdr.t, .int .u8 s.hdr.kd, .int .i64 s.hdr.mp, .bool s.hdr.rm, .bool s.hdr.bt, .bool s.hdr.ck, .int .i64 s.hdr.bk, .int .i64 s.hdr.sz, .int .u8 s.hdr.sm, .int .u16 s.hdr.wh, .slice (some ⟨a.gi, 0, none⟩) s.img.length a.ci, .slice (some ⟨a.gr, 0, none⟩) s.ram.length s.ram.length, .bool true]
def HeadL (w : World) (g : Nat) (L : List Int) : Prop := ∃ cs : Array Value, w.heap[g]? = some (.cells cs 5 (0, 0)) ∧ ∀ i : Nat, i < L.length → cs[i]? = some (.int .u8 (rd L i))
theorem HeadL.cell {w : World} {g : Nat} {L : List Int} (h : HeadL w g L) (i : Nat) (hi : i < L.length) : w.cell? ⟨g, i, none⟩ = some (.int .u8 (rd L i)) := by
  obtain ⟨cs, h1, h2⟩ := h
  exact (blk_cell h1 i).trans (h2 i hi)
theorem HeadL.of_block {w w' : World} {g : Nat} {L : List Int} (h : HeadL w g L) (e : w'.heap[g]? = w.heap[g]?) : HeadL w' g L := by
  obtain ⟨cs, h1, h2⟩ := h
  exact ⟨cs, e.trans h1, h2⟩
theorem HeadL.lt {w : World} {g : Nat} {L : List Int} (h : HeadL w g L) : g < w.heap.size := by
  obtain ⟨cs, h1, _⟩ := h
  exact blk_lt h1
theorem RowL.head {w : World} {g : Nat} {L : List Int} (h : RowL w g L) : HeadL w g L :=
  ⟨_, h, fun i hi => (blk_cell h i).symm.trans (h.cell i hi)⟩
theorem HeadL.reads {w : World} {g : Nat} {L : List Int} (h : HeadL w g L) (hm : L.length ≤ 9223372036854775807) : Kd.C (Kd.int .u8) w (some ⟨g, 0, none⟩) L.length L := by
  refine Kd.C_of_reads (d := (0 : Int)) ⟨by simp, hm, fun h0 => ⟨_, rfl, fun j hj => ?_⟩⟩
  have q := h.cell j hj
  have e : L.getD j 0 = rd L j := by simp [rd, List.getD_eq_getElem?_getD]
  rw [e]
  have e2 : (⟨g, 0, none⟩ : Addr).add j = ⟨g, j, none⟩ := by
    simp only [Addr.add]
    split
    · rename_i hz; rw [hz]
    · simp
  rw [e2]
  exact q
structure CartAt (w : World) (a : Ad) (s : Ct) : Prop where
  box : w.heap[a.b]? = some (.cells (s.cells a).toArray 64 (0, 0))
  image : HeadL w a.gi s.img
  row : RowL w a.gr s.ram
  n1 : a.b ≠ a.gr
  n2 : a.gi ≠ a.gr
  n3 : a.gi ≠ a.b
structure Upto (S : Nat → Prop) (w w' : World) : Prop where
  os : w'.os = w.os
  tape : w'.tape = w.tape
  output : w'.output = w.output
  size : w.heap.size ≤ w'.heap.size
  block : ∀ k, k < w.heap.size → ¬ S k → w'.heap[k]? = w.heap[k]?
def Ad.S (a : Ad) (k : Nat) : Prop := k = a.b ∨ k = a.gr
theorem Upto.refl (S : Nat → Prop) (w : World) : Upto S w w := ⟨rfl, rfl, rfl, Nat.le_refl _, fun _ _ _ => rfl⟩
theorem Upto.trans {S : Nat → Prop} {w w' w'' : World} (h : Upto S w w') (k : Upto S w' w'') : Upto S w w'' :=
  ⟨k.os.trans h.os, k.tape.trans h.tape, k.output.trans h.output, Nat.le_trans h.size k.size, fun i hi hS => (k.block i (Nat.lt_of_lt_of_le hi h.size) hS).trans (h.block i hi hS)⟩
theorem Upto.of_below {S : Nat → Prop} {w w' : World} (h : Below w.heap.size w w') : Upto S w w' := ⟨h.os, h.tape, h.output, h.size, fun k hk _ => h.block k hk⟩
theorem Upto.set {S : Nat → Prop} {w w' : World} (h : Upto S w w') {p : Addr} (hp : S p.block) (u : Value) : Upto S w (w'.setCell p u) :=
  ⟨h.os, h.tape, h.output, by simpa [World.setCell] using h.size, fun k hk hS => (Below.heap_setCell _ _ _ _ (fun e => hS (by rw [e]; exact hp))).trans (h.block k hk hS)⟩
theorem Upto.setB {b : Nat} {w w' : World} (h : Upto (fun k => k = b) w w') (i : Nat) (u : Value) : Upto (fun k => k = b) w (w'.setCell ⟨b, i, none⟩ u) := Upto.set h (p := ⟨b, i, none⟩) rfl u
theorem Upto.drew {S : Nat → Prop} {w w' : World} (h : Upto S w w') : Upto S w w'.drew := ⟨h.os, h.tape, h.output, h.size, h.block⟩
theorem Upto.mono {S T : Nat → Prop} {w w' : World} (h : Upto S w w') (hT : ∀ k, S k → T k) : Upto T w w' := ⟨h.os, h.tape, h.output, h.size, fun k hk hS => h.block k hk (fun q => hS (hT k q))⟩
theorem Upto.below {S : Nat → Prop} {w w' w0 : World} {B : Nat} (h : Upto S w w') (hb : Below B w0 w) (hB : B ≤ w.heap.size) (hS : ∀ k, S k → B ≤ k) : Below B w0 w' :=
  ⟨h.os.trans hb.os, h.tape.trans hb.tape, h.output.trans hb.output, Nat.le_trans hb.size h.size, fun k hk => (h.block k (by omega) (fun q => by have := hS k q; omega)).trans (hb.block k hk)⟩
theorem Upto.blk {S : Nat → Prop} {w w' : World} {g : Nat} {o : Obj} (h : Upto S w w') (hb : w.heap[g]? = some o) (hS : ¬ S g) : w'.heap[g]? = some o := (h.block g (blk_lt hb) hS).trans hb
theorem CartAt.kept {w w' : World} {a : Ad} {s : Ct} (h : CartAt w a s) {S : Nat → Prop} (u : Upto S w w') (h1 : ¬ S a.b) (h2 : ¬ S a.gi) (h3 : ¬ S a.gr) : CartAt w' a s :=
  ⟨u.blk h.box h1, h.image.of_block (u.block _ h.image.lt h2), u.blk h.row h3, h.n1, h.n2, h.n3⟩
theorem CartAt.below {w w' : World} {a : Ad} {s : Ct} (h : CartAt w a s) (hb : Below w.heap.size w w') : CartAt w' a s :=
  h.kept (S := fun _ => False) (Upto.of_below hb) (fun q => q) (fun q => q) (fun q => q)
theorem CartAt.frozen {w : World} {a : Ad} {s : Ct} (h : CartAt w a s) (i : Nat) : w.frozen? ⟨a.b, i, none⟩ = false := blk_frozen h.box i
theorem CartAt.ltb {w : World} {a : Ad} {s : Ct} (h : CartAt w a s) : a.b < w.heap.size := blk_lt h.box
theorem CartAt.lti {w : World} {a : Ad} {s : Ct} (h : CartAt w a s) : a.gi < w.heap.size := h.image.lt
theorem CartAt.ltr {w : World} {a : Ad} {s : Ct} (h : CartAt w a s) : a.gr < w.heap.size := blk_lt h.row
theorem blk_setL {w : World} {g : Nat} {t : TypeId} {l : List Value} (h : w.heap[g]? = some (.cells l.toArray t (0, 0))) (i : Nat) (u : Value) : (w.setCell ⟨g, i, none⟩ u).heap[g]? = some (.cells (l.set i u).toArray t (0, 0)) :=
  blk_put h i u (by simp)
theorem CartAt.stored {w W : World} {a : Ad} {s s' : Ct} (h : CartAt w a s) (hb : W.heap[a.b]? = some (.cells (s'.cells a).toArray 64 (0, 0))) (u : Upto (fun k => k = a.b) w W) (hi : s'.img = s.img) (hr : s'.ram = s.ram) : CartAt W a s' ∧ Upto a.S w W :=
  ⟨⟨hb, by rw [hi]; exact h.image.of_block (u.block _ h.lti h.n3), by rw [hr]; exact u.blk h.row (fun q => h.n1 q.symm), h.n1, h.n2, h.n3⟩, u.mono fun k q => Or.inl q⟩
theorem cells_lv (s : Ct) (a : Ad) (c : Ck) : (((((((s.cells a).set 6 (.int .u8 c.s)).set 7 (.int .u8 c.m)).set 8 (.int .u8 c.h)).set 9 (.int .u16 c.d)).set 10 (.bool c.ht)).set 11 (.bool c.cy)) = ({ s with lv := c } : Ct).cells a := by simp [Ct.cells]
theorem cells_hd (s : Ct) (a : Ad) (c : Ck) : (((((((s.cells a).set 12 (.int .u8 c.s)).set 13 (.int .u8 c.m)).set 14 (.int .u8 c.h)).set 15 (.int .u16 c.d)).set 16 (.bool c.ht)).set 17 (.bool c.cy)) = ({ s with hd := c } : Ct).cells a := by simp [Ct.cells]
theorem cells_mp (s : Ct) (a : Ad) (c : Mp) : (((((((s.cells a).set 0 (.int .i64 c.k)).set 1 (.bool c.o)).set 2 (.int .u8 c.l)).set 3 (.int .u8 c.h)).set 4 (.int .u8 c.r)).set 5 (.bool c.md)) = ({ s with mp := c } : Ct).cells a := by simp [Ct.cells]
theorem cells_last (s : Ct) (a : Ad) (v : Int) : ((s.cells a).set 18 (.int .u8 v)) = ({ s with last := v } : Ct).cells a := by simp [Ct.cells]
theorem blk_fill6 {w : World} {g : Nat} {t : TypeId} {l : List Value} (h : w.heap[g]? = some (.cells l.toArray t (0, 0))) (hl : l.length = 6) (v0 v1 v2 v3 v4 v5 : Value) : ((((((w.setCell ⟨g, 0, none⟩ v0).setCell ⟨g, 1, none⟩ v1).setCell ⟨g, 2, none⟩ v2).setCell ⟨g, 3, none⟩ v3).setCell ⟨g, 4, none⟩ v4).setCell ⟨g, 5, none⟩ v5).heap[g]? = some (.cells #[v0, v1, v2, v3, v4, v5] t (0, 0)) := by
  have p := blk_setL (blk_setL (blk_setL (blk_setL (blk_setL (blk_setL h 0 v0) 1 v1) 2 v2) 3 v3) 4 v4) 5 v5
  match l, hl with
  | [a0, a1, a2, a3, a4, a5], _ => simpa using p
theorem blk_far6 {w : World} {g b : Nat} {o : Obj} (h : w.heap[g]? = some o) (hb : g ≠ b) (i0 i1 i2 i3 i4 i5 : Nat) (v0 v1 v2 v3 v4 v5 : Value) : ((((((w.setCell ⟨b, i0, none⟩ v0).setCell ⟨b, i1, none⟩ v1).setCell ⟨b, i2, none⟩ v2).setCell ⟨b, i3, none⟩ v3).setCell ⟨b, i4, none⟩ v4).setCell ⟨b, i5, none⟩ v5).heap[g]? = some o := by
  refine (Below.heap_setCell _ _ _ _ hb).trans ?_
  refine (Below.heap_setCell _ _ _ _ hb).trans ?_
  refine (Below.heap_setCell _ _ _ _ hb).trans ?_
  refine (Below.heap_setCell _ _ _ _ hb).trans ?_
  refine (Below.heap_setCell _ _ _ _ hb).trans ?_
  exact (Below.heap_setCell _ _ _ _ hb).trans h
theorem below6 {w0 w : World} {B b : Nat} (h : Below B w0 w) (hb : B ≤ b) (i0 i1 i2 i3 i4 i5 : Nat) (v0 v1 v2 v3 v4 v5 : Value) : Below B w0 ((((((w.setCell ⟨b, i0, none⟩ v0).setCell ⟨b, i1, none⟩ v1).setCell ⟨b, i2, none⟩ v2).setCell ⟨b, i3, none⟩ v3).setCell ⟨b, i4, none⟩ v4).setCell ⟨b, i5, none⟩ v5) := by
  refine Below.setCell ?_ hb _
  refine Below.setCell ?_ hb _
  refine Below.setCell ?_ hb _
  refine Below.setCell ?_ hb _
  refine Below.setCell ?_ hb _
  exact Below.setCell h hb _
theorem CartAt.c0 {w : World} {a : Ad} {s : Ct} (h : CartAt w a s) : w.cell? ⟨a.b, 0, none⟩ = some (.int .i64 s.mp.k) := (blk_cell h.box 0).trans rfl
theorem CartAt.c1 {w : World} {a : Ad} {s : Ct} (h : CartAt w a s) : w.cell? ⟨a.b, 1, none⟩ = some (.bool s.mp.o) := (blk_cell h.box 1).trans rfl
theorem CartAt.c2 {w : World} {a : Ad} {s : Ct} (h : CartAt w a s) : w.cell? ⟨a.b, 2, none⟩ = some (.int .u8 s.mp.l) := (blk_cell h.box 2).trans rfl
theorem CartAt.c3 {w : World} {a : Ad} {s : Ct} (h : CartAt w a s) : w.cell? ⟨a.b, 3, none⟩ = some (.int .u8 s.mp.h) := (blk_cell h.box 3).trans rfl
theorem CartAt.c4 {w : World} {a : Ad} {s : Ct} (h : CartAt w a s) : w.cell? ⟨a.b, 4, none⟩ = some (.int .u8 s.mp.r) := (blk_cell h.box 4).trans rfl
theorem CartAt.c5 {w : World} {a : Ad} {s : Ct} (h : CartAt w a s) : w.cell? ⟨a.b, 5, none⟩ = some (.bool s.mp.md) := (blk_cell h.box 5).trans rfl
theorem CartAt.c6 {w : World} {a : Ad} {s : Ct} (h : CartAt w a s) : w.cell? ⟨a.b, 6, none⟩ = some (.int .u8 s.lv.s) := (blk_cell h.box 6).trans rfl
theorem CartAt.c7 {w : World} {a : Ad} {s : Ct} (h : CartAt w a s) : w.cell? ⟨a.b, 7, none⟩ = some (.int .u8 s.lv.m) := (blk_cell h.box 7).trans rfl
theorem CartAt.c8 {w : World} {a : Ad} {s : Ct} (h : CartAt w a s) : w.cell? ⟨a.b, 8, none⟩ = some (.int .u8 s.lv.h) := (blk_cell h.box 8).trans rfl
theorem CartAt.c9 {w : World} {a : Ad} {s : Ct} (h : CartAt w a s) : w.cell? ⟨a.b, 9, none⟩ = some (.int .u16 s.lv.d) := (blk_cell h.box 9).trans rfl
theorem CartAt.c10 {w : World} {a : Ad} {s : Ct} (h : CartAt w a s) : w.cell? ⟨a.b, 10, none⟩ = some (.bool s.lv.ht) := (blk_cell h.box 10).trans rfl
theorem CartAt.c11 {w : World} {a : Ad} {s : Ct} (h : CartAt w a s) : w.cell? ⟨a.b, 11, none⟩ = some (.bool s.lv.cy) := (blk_cell h.box 11).trans rfl
theorem CartAt.c12 {w : World} {a : Ad} {s : Ct} (h : CartAt w a s) : w.cell? ⟨a.b, 12, none⟩ = some (.int .u8 s.hd.s) := (blk_cell h.box 12).trans rfl
theorem CartAt.c13 {w : World} {a : Ad} {s : Ct} (h : CartAt w a s) : w.cell? ⟨a.b, 13, none⟩ = some (.int .u8 s.hd.m) := (blk_cell h.box 13).trans rfl
theorem CartAt.c14 {w : World} {a : Ad} {s : Ct} (h : CartAt w a s) : w.cell? ⟨a.b, 14, none⟩ = some (.int .u8 s.hd.h) := (blk_cell h.box 14).trans rfl
theorem CartAt.c15 {w : World} {a : Ad} {s : Ct} (h : CartAt w a s) : w.cell? ⟨a.b, 15, none⟩ = some (.int .u16 s.hd.d) := (blk_cell h.box 15).trans rfl
theorem CartAt.c16 {w : World} {a : Ad} {s : Ct} (h : CartAt w a s) : w.cell? ⟨a.b, 16, none⟩ = some (.bool s.hd.ht) := (blk_cell h.box 16).trans rfl
theorem CartAt.c17 {w : World} {a : Ad} {s : Ct} (h : CartAt w a s) : w.cell? ⟨a.b, 17, none⟩ = some (.bool s.hd.cy) := (blk_cell h.box 17).trans rfl
theorem CartAt.c18 {w : World} {a : Ad} {s : Ct} (h : CartAt w a s) : w.cell? ⟨a.b, 18, none⟩ = some (.int .u8 s.last) := (blk_cell h.box 18).trans rfl
theorem CartAt.c19 {w : World} {a : Ad} {s : Ct} (h : CartAt w a s) : w.cell? ⟨a.b, 19, none⟩ = some (.string s.hdr.t) := (blk_cell h.box 19).trans rfl
theorem CartAt.c20 {w : World} {a : Ad} {s : Ct} (h : CartAt w a s) : w.cell? ⟨a.b, 20, none⟩ = some (.int .u8 s.hdr.kd) := (blk_cell h.box 20).trans rfl
theorem CartAt.c21 {w : World} {a : Ad} {s : Ct} (h : CartAt w a s) : w.cell? ⟨a.b, 21, none⟩ = some (.int .i64 s.hdr.mp) := (blk_cell h.box 21).trans rfl
theorem CartAt.c22 {w : World} {a : Ad} {s : Ct} (h : CartAt w a s) : w.cell? ⟨a.b, 22, none⟩ = some (.bool s.hdr.rm) := (blk_cell h.box 22).trans rfl
theorem CartAt.c23 {w : World} {a : Ad} {s : Ct} (h : CartAt w a s) : w.cell? ⟨a.b, 23, none⟩ = some (.bool s.hdr.bt) := (blk_cell h.box 23).trans rfl
theorem CartAt.c24 {w : World} {a : Ad} {s : Ct} (h : CartAt w a s) : w.cell? ⟨a.b, 24, none⟩ = some (.bool s.hdr.ck) := (blk_cell h.box 24).trans rfl
theorem CartAt.c25 {w : World} {a : Ad} {s : Ct} (h : CartAt w a s) : w.cell? ⟨a.b, 25, none⟩ = some (.int .i64 s.hdr.bk) := (blk_cell h.box 25).trans rfl
theorem CartAt.c26 {w : World} {a : Ad} {s : Ct} (h : CartAt w a s) : w.cell? ⟨a.b, 26, none⟩ = some (.int .i64 s.hdr.sz) := (blk_cell h.box 26).trans rfl
theorem CartAt.c27 {w : World} {a : Ad} {s : Ct} (h : CartAt w a s) : w.cell? ⟨a.b, 27, none⟩ = some (.int .u8 s.hdr.sm) := (blk_cell h.box 27).trans rfl
theorem CartAt.c28 {w : World} {a : Ad} {s : Ct} (h : CartAt w a s) : w.cell? ⟨a.b, 28, none⟩ = some (.int .u16 s.hdr.wh) := (blk_cell h.box 28).trans rfl
theorem CartAt.c29 {w : World} {a : Ad} {s : Ct} (h : CartAt w a s) : w.cell? ⟨a.b, 29, none⟩ = some (.slice (some ⟨a.gi, 0, none⟩) s.img.length a.ci) := (blk_cell h.box 29).trans rfl
theorem CartAt.c30 {w : World} {a : Ad} {s : Ct} (h : CartAt w a s) : w.cell? ⟨a.b, 30, none⟩ = some (.slice (some ⟨a.gr, 0, none⟩) s.ram.length s.ram.length) := (blk_cell h.box 30).trans rfl
theorem CartAt.c31 {w : World} {a : Ad} {s : Ct} (h : CartAt w a s) : w.cell? ⟨a.b, 31, none⟩ = some (.bool true) := (blk_cell h.box 31).trans rfl
end Go.Proofs.Ytmjjojbedllmgaa.Hand
end
section
namespace Go.Proofs.Ytmjjojbedllmgaa.Hand
open Go.RowKit
open Go.Proofs.Ytmjjojbedllmgaa.G
open Go.Proofs.YtmjjojbedllmgaaW.PrintWords Go.Proofs.YtmjjojbedllmgaaW.PrintLast Go.Proofs.YtmjjojbedllmgaaW.PrintMore
set_option linter.unusedVariables false
set_option linter.unusedSimpArgs false
theorem given_calls (n : Int) (w : World) : Calls Try.prog 54 #[.iface 26 (.int .i64 n)] w fun e w' => e = .returned (.int .i64 n) ∧ w' = w := by
  have hta : ∀ w : World, (Instr.typeAssert (.iface 26 (.int .i64 n)) 20 26 true).run Try.prog w = .ok (.tuple #[.int .i64 n, .bool true]) w := fun _ => by kernel_rfl
  go_enter Try.func54, Try.ntmps54
  go_wp2
  go_ret
  exact ⟨rfl, rfl⟩
theorem need_no (n : Int) (w : World) : Calls Try.prog 55 #[.bool false, .int .i64 n] w fun e w' => e = .panicked [{ v := .iface 26 (.int .i64 n), recovered := false }] ∧ w' = w := by
  go_enter Try.func55, Try.ntmps55
  go_wp2
  exact ⟨rfl, rfl, rfl⟩
theorem need_ok (n : Int) (w : World) : Calls Try.prog 55 #[.bool true, .int .i64 n] w fun e w' => e = .returned (.tuple #[]) ∧ w' = w := by
  go_enter Try.func55, Try.ntmps55
  go_wp2
  go_end0
  exact ⟨rfl, rfl⟩
theorem parse_panicking (p : Addr) (x n : Int) (older : List PanicEntry) (w : World) (hc : w.cell? p = some (.int .i64 x)) (hz : w.frozen? p = false) :
    CallsD Try.prog 53 #[.pointer (some p)] (.panicking ({ v := .iface 26 (.int .i64 n), recovered := false } :: older)) w fun e u' w' =>
      e = .returned (.tuple #[]) ∧ u' = .panicking ({ v := .iface 26 (.int .i64 n), recovered := true } :: older) ∧ w' = w.setCell p (.int .i64 n) := by
  refine callsD_of_wpS Try.func53 rfl fun c₀ cs hu => ?_
  apply wpS_seq
  apply wpS_region
  simp [wpOpsS, go_sem, recoverD, hu, Try.ntmps53, Exit.thenS]
  apply wpS_seq
  apply wpS_region
  simp [wpOpsS, go_sem, Exit.thenS]
  refine wpS_cond (t := true) (by simp [Act.eval, Array.replicate]) ?_
  simp only [if_true]
  apply wpS_region
  simp [wpOpsS, go_sem, hc, hz, bodyPostS, results, Try.results53]
  refine (given_calls n w).mono ?_
  rintro e w' ⟨rfl, rfl⟩
  simp [go_sem, hc, hz, bodyPostS, results]
theorem parse_idle (p : Addr) (w : World) :
    CallsD Try.prog 53 #[.pointer (some p)] .returning w fun e u' w' => e = .returned (.tuple #[]) ∧ u' = .returning ∧ w' = w := by
  refine callsD_of_wpS Try.func53 rfl fun c₀ cs hu => ?_
  apply wpS_seq
  apply wpS_region
  simp [wpOpsS, go_sem, recoverD, hu, Try.ntmps53, Exit.thenS]
  apply wpS_seq
  apply wpS_region
  simp [wpOpsS, go_sem, Exit.thenS]
  refine wpS_cond (t := false) (by simp [Act.eval, Array.replicate]) ?_
  simp only [Bool.false_eq_true, if_false]
  refine wpS_of_wp (wp_skip ?_)
  cases c₀
  simp_all [bodyPostS, results, Try.results53]
theorem make_panicking (p : Addr) (x n : Int) (older : List PanicEntry) (w : World) (hc : w.cell? p = some (.int .i64 x)) (hz : w.frozen? p = false) :
    CallsD Try.prog 77 #[.pointer (some p)] (.panicking ({ v := .iface 26 (.int .i64 n), recovered := false } :: older)) w fun e u' w' =>
      e = .returned (.tuple #[]) ∧ u' = .panicking ({ v := .iface 26 (.int .i64 n), recovered := true } :: older) ∧ w' = w.setCell p (.int .i64 n) := by
  refine callsD_of_wpS Try.func77 rfl fun c₀ cs hu => ?_
  apply wpS_seq
  apply wpS_region
  simp [wpOpsS, go_sem, recoverD, hu, Try.ntmps77, Exit.thenS]
  apply wpS_seq
  apply wpS_region
  simp [wpOpsS, go_sem, Exit.thenS]
  refine wpS_cond (t := true) (by simp [Act.eval, Array.replicate]) ?_
  simp only [if_true]
  apply wpS_region
  simp [wpOpsS, go_sem, hc, hz, bodyPostS, results, Try.results77]
  refine (given_calls n w).mono ?_
  rintro e w' ⟨rfl, rfl⟩
  simp [go_sem, hc, hz, bodyPostS, results]
theorem make_idle (p : Addr) (w : World) :
    CallsD Try.prog 77 #[.pointer (some p)] .returning w fun e u' w' => e = .returned (.tuple #[]) ∧ u' = .returning ∧ w' = w := by
  refine callsD_of_wpS Try.func77 rfl fun c₀ cs hu => ?_
  apply wpS_seq
  apply wpS_region
  simp [wpOpsS, go_sem, recoverD, hu, Try.ntmps77, Exit.thenS]
  apply wpS_seq
  apply wpS_region
  simp [wpOpsS, go_sem, Exit.thenS]
  refine wpS_cond (t := false) (by simp [Act.eval, Array.replicate]) ?_
  simp only [Bool.false_eq_true, if_false]
  refine wpS_of_wp (wp_skip ?_)
  cases c₀
  simp_all [bodyPostS, results, Try.results77]
end Go.Proofs.Ytmjjojbedllmgaa.Hand
end
section
namespace Go.Proofs.Ytmjjojbedllmgaa.Hand
open Go.RowKit
open Go.Proofs.Ytmjjojbedllmgaa.G
open Go.Proofs.YtmjjojbedllmgaaW.PrintWords Go.Proofs.YtmjjojbedllmgaaW.PrintLast Go.Proofs.YtmjjojbedllmgaaW.PrintMore
set_option linter.unusedVariables false
set_option linter.unusedSimpArgs false
def sumTo (l : List Int) : Nat → Int
  | 0 => 0
  | j + 1 => (sumTo l j - (rd l ((308 + j : Nat) : Int) + 1) % 256) % 256
set_option maxRecDepth 100000 in
set_option maxHeartbeats 4000000 in
theorem sum_main (A : Option Addr) (c : Nat) (l : List Int) (hl : 333 ≤ l.length) (w : World) (hr : Kd.C (Kd.int .u8) w A l.length l) (hc : l.length ≤ c) :
    Calls Try.prog 58 #[.slice A l.length c] w fun e' w' => e' = .returned (.int .u8 (sumTo l 25)) ∧ w' = w := by
  have hc3 : (333 : Int) ≤ c := by omega
  obtain ⟨ad, rfl, _⟩ := Kd.at_int hr 0 (by omega) (by omega)
  have HR := Aside0.mk hr
  have HL := Aside0.mk hl
  clear hr hl
  go_enter Try.func58, Try.ntmps58
  go_wp2_with fail
  go_loopw [3, 9] (fun x i w' => ∃ (j : Nat), i = .int .i64 j ∧ x = .int .u8 (sumTo l j) ∧ Aside0 (j ≤ 25 ∧ w' = w)) (fun _ i _ => 30 - (intOf i).toNat)
  case atStart => exact ⟨0, rfl, rfl, Aside0.mk ⟨by omega, rfl⟩⟩
  case round =>
    obtain ⟨j, rfl, rfl, HA⟩ := hrel
    obtain ⟨hj, rfl⟩ := HA.out
    clear HA
    by_cases hj2 : j = 25
    · subst hj2
      go_wp2
      go_ret
      exact ⟨rfl, rfl⟩
    · have hlt : (j : Int) < 25 := by omega
      obtain ⟨ad', ea, cb⟩ := Kd.at_int HR.out ((308 + j : Nat) : Int) (by omega) (by have := HL.out; omega)
      obtain rfl := Option.some.inj ea
      clear ea
      rw [Int.toNat_natCast] at cb
      have cb' : wr.cell? ⟨ad.block, ad.off + 308 + j, none⟩ = some (.int .u8 (rd l ((308 + j : Nat) : Int))) := by have := cb; simp only [Addr.add] at this; rw [Nat.add_assoc]; simpa using this
      go_wp2
      exact ⟨⟨j + 1, by simp, by simp [sumTo], Aside0.mk ⟨by omega, trivial⟩⟩, by simp [intOf]; omega⟩
def header_sum.f (l0 : List Int) : Option Int := if 333 ≤ l0.length then some (sumTo l0 25) else none
theorem header_sum.calls (A0 : Option Addr) (c0 : Nat) (l0 : List Int) (r : Int) (w : World) (hr0 : Kd.C (Kd.int .u8) w A0 l0.length l0) (hc0 : l0.length ≤ c0) (h : header_sum.f l0 = some r) :
    Calls Try.prog 58 #[.slice A0 l0.length c0] w fun e w' => e = .returned (.int .u8 r) ∧ w' = w := by
  unfold header_sum.f at h
  split at h
  · rename_i hl
    cases h
    exact sum_main A0 c0 l0 hl w hr0 hc0
  · cases h
end Go.Proofs.Ytmjjojbedllmgaa.Hand
end
section
namespace Go.Proofs.Ytmjjojbedllmgaa.Hand
open Go.RowKit
open Go.Proofs.Ytmjjojbedllmgaa.G
open Go.Proofs.YtmjjojbedllmgaaW.PrintWords Go.Proofs.YtmjjojbedllmgaaW.PrintLast Go.Proofs.YtmjjojbedllmgaaW.PrintMore
set_option linter.unusedVariables false
set_option linter.unusedSimpArgs false
def wareT (k : Int) : Int × Bool × Bool × Bool × Bool :=
  if k = 0 then (0, false, false, false, true) else
  if k = 1 then (1, false, false, false, true) else
  if k = 2 then (1, true, false, false, true) else
  if k = 3 then (1, true, true, false, true) else
  if k = 8 then (0, true, false, false, true) else
  if k = 9 then (0, true, true, false, true) else
  if k = 15 then (3, false, true, true, true) else
  if k = 16 then (3, true, true, true, true) else
  if k = 17 then (3, false, false, false, true) else
  if k = 18 then (3, true, false, false, true) else
  if k = 19 then (3, true, true, false, true) else
  if k = 25 then (5, false, false, false, true) else
  if k = 26 then (5, true, false, false, true) else
  if k = 27 then (5, true, true, false, true) else
  if k = 28 then (5, false, false, false, true) else
  if k = 29 then (5, true, false, false, true) else
  if k = 30 then (5, true, true, false, true) else
  (0, false, false, false, false)
set_option maxRecDepth 100000 in
set_option maxHeartbeats 2000000 in
theorem ware_0 (w : World) : Calls Try.prog 56 #[.int .u8 0] w fun e' w' => e' = .returned (.tuple #[.agg #[.string ⟨#[]⟩, .int .u8 0, .int .i64 0, .bool false, .bool false, .bool false, .int .i64 0, .int .i64 0, .int .u8 0, .int .u16 0], .bool true]) ∧ Below w.heap.size w w' := by
  go_enter Try.func56, Try.ntmps56
  go_wp2
  refine bodyPost_ret (v := .tuple #[.agg #[.string ⟨#[]⟩, .int .u8 0, .int .i64 0, .bool false, .bool false, .bool false, .int .i64 0, .int .i64 0, .int .u8 0, .int .u16 0], .bool true]) (by simp [results, Try.results56, go_sem]) rfl ⟨rfl, by go_grown⟩
set_option maxRecDepth 100000 in
set_option maxHeartbeats 2000000 in
theorem ware_1 (w : World) : Calls Try.prog 56 #[.int .u8 1] w fun e' w' => e' = .returned (.tuple #[.agg #[.string ⟨#[]⟩, .int .u8 1, .int .i64 1, .bool false, .bool false, .bool false, .int .i64 0, .int .i64 0, .int .u8 0, .int .u16 0], .bool true]) ∧ Below w.heap.size w w' := by
  go_enter Try.func56, Try.ntmps56
  go_wp2
  refine bodyPost_ret (v := .tuple #[.agg #[.string ⟨#[]⟩, .int .u8 1, .int .i64 1, .bool false, .bool false, .bool false, .int .i64 0, .int .i64 0, .int .u8 0, .int .u16 0], .bool true]) (by simp [results, Try.results56, go_sem]) rfl ⟨rfl, by go_grown⟩
set_option maxRecDepth 100000 in
set_option maxHeartbeats 2000000 in
theorem ware_2 (w : World) : Calls Try.prog 56 #[.int .u8 2] w fun e' w' => e' = .returned (.tuple #[.agg #[.string ⟨#[]⟩, .int .u8 2, .int .i64 1, .bool true, .bool false, .bool false, .int .i64 0, .int .i64 0, .int .u8 0, .int .u16 0], .bool true]) ∧ Below w.heap.size w w' := by
  go_enter Try.func56, Try.ntmps56
  go_wp2
  refine bodyPost_ret (v := .tuple #[.agg #[.string ⟨#[]⟩, .int .u8 2, .int .i64 1, .bool true, .bool false, .bool false, .int .i64 0, .int .i64 0, .int .u8 0, .int .u16 0], .bool true]) (by simp [results, Try.results56, go_sem]) rfl ⟨rfl, by go_grown⟩
set_option maxRecDepth 100000 in
set_option maxHeartbeats 2000000 in
theorem ware_3 (w : World) : Calls Try.prog 56 #[.int .u8 3] w fun e' w' => e' = .returned (.tuple #[.agg #[.string ⟨#[]⟩, .int .u8 3, .int .i64 1, .bool true, .bool true, .bool false, .int .i64 0, .int .i64 0, .int .u8 0, .int .u16 0], .bool true]) ∧ Below w.heap.size w w' := by
  go_enter Try.func56, Try.ntmps56
  go_wp2
  refine bodyPost_ret (v := .tuple #[.agg #[.string ⟨#[]⟩, .int .u8 3, .int .i64 1, .bool true, .bool true, .bool false, .int .i64 0, .int .i64 0, .int .u8 0, .int .u16 0], .bool true]) (by simp [results, Try.results56, go_sem]) rfl ⟨rfl, by go_grown⟩
set_option maxRecDepth 100000 in
set_option maxHeartbeats 2000000 in
theorem ware_8 (w : World) : Calls Try.prog 56 #[.int .u8 8] w fun e' w' => e' = .returned (.tuple #[.agg #[.string ⟨#[]⟩, .int .u8 8, .int .i64 0, .bool true, .bool false, .bool false, .int .i64 0, .int .i64 0, .int .u8 0, .int .u16 0], .bool true]) ∧ Below w.heap.size w w' := by
  go_enter Try.func56, Try.ntmps56
  go_wp2
  refine bodyPost_ret (v := .tuple #[.agg #[.string ⟨#[]⟩, .int .u8 8, .int .i64 0, .bool true, .bool false, .bool false, .int .i64 0, .int .i64 0, .int .u8 0, .int .u16 0], .bool true]) (by simp [results, Try.results56, go_sem]) rfl ⟨rfl, by go_grown⟩
set_option maxRecDepth 100000 in
set_option maxHeartbeats 2000000 in
theorem ware_9 (w : World) : Calls Try.prog 56 #[.int .u8 9] w fun e' w' => e' = .returned (.tuple #[.agg #[.string ⟨#[]⟩, .int .u8 9, .int .i64 0, .bool true, .bool true, .bool false, .int .i64 0, .int .i64 0, .int .u8 0, .int .u16 0], .bool true]) ∧ Below w.heap.size w w' := by
  go_enter Try.func56, Try.ntmps56
  go_wp2
  refine bodyPost_ret (v := .tuple #[.agg #[.string ⟨#[]⟩, .int .u8 9, .int .i64 0, .bool true, .bool true, .bool false, .int .i64 0, .int .i64 0, .int .u8 0, .int .u16 0], .bool true]) (by simp [results, Try.results56, go_sem]) rfl ⟨rfl, by go_grown⟩
set_option maxRecDepth 100000 in
set_option maxHeartbeats 2000000 in
theorem ware_15 (w : World) : Calls Try.prog 56 #[.int .u8 15] w fun e' w' => e' = .returned (.tuple #[.agg #[.string ⟨#[]⟩, .int .u8 15, .int .i64 3, .bool false, .bool true, .bool true, .int .i64 0, .int .i64 0, .int .u8 0, .int .u16 0], .bool true]) ∧ Below w.heap.size w w' := by
  go_enter Try.func56, Try.ntmps56
  go_wp2
  refine bodyPost_ret (v := .tuple #[.agg #[.string ⟨#[]⟩, .int .u8 15, .int .i64 3, .bool false, .bool true, .bool true, .int .i64 0, .int .i64 0, .int .u8 0, .int .u16 0], .bool true]) (by simp [results, Try.results56, go_sem]) rfl ⟨rfl, by go_grown⟩
set_option maxRecDepth 100000 in
set_option maxHeartbeats 2000000 in
theorem ware_16 (w : World) : Calls Try.prog 56 #[.int .u8 16] w fun e' w' => e' = .returned (.tuple #[.agg #[.string ⟨#[]⟩, .int .u8 16, .int .i64 3, .bool true, .bool true, .bool true, .int .i64 0, .int .i64 0, .int .u8 0, .int .u16 0], .bool true]) ∧ Below w.heap.size w w' := by
  go_enter Try.func56, Try.ntmps56
  go_wp2
  refine bodyPost_ret (v := .tuple #[.agg #[.string ⟨#[]⟩, .int .u8 16, .int .i64 3, .bool true, .bool true, .bool true, .int .i64 0, .int .i64 0, .int .u8 0, .int .u16 0], .bool true]) (by simp [results, Try.results56, go_sem]) rfl ⟨rfl, by go_grown⟩
set_option maxRecDepth 100000 in
set_option maxHeartbeats 2000000 in
theorem ware_17 (w : World) : Calls Try.prog 56 #[.int .u8 17] w fun e' w' => e' = .returned (.tuple #[.agg #[.string ⟨#[]⟩, .int .u8 17, .int .i64 3, .bool false, .bool false, .bool false, .int .i64 0, .int .i64 0, .int .u8 0, .int .u16 0], .bool true]) ∧ Below w.heap.size w w' := by
  go_enter Try.func56, Try.ntmps56
  go_wp2
  refine bodyPost_ret (v := .tuple #[.agg #[.string ⟨#[]⟩, .int .u8 17, .int .i64 3, .bool false, .bool false, .bool false, .int .i64 0, .int .i64 0, .int .u8 0, .int .u16 0], .bool true]) (by simp [results, Try.results56, go_sem]) rfl ⟨rfl, by go_grown⟩
set_option maxRecDepth 100000 in
set_option maxHeartbeats 2000000 in
theorem ware_18 (w : World) : Calls Try.prog 56 #[.int .u8 18] w fun e' w' => e' = .returned (.tuple #[.agg #[.string ⟨#[]⟩, .int .u8 18, .int .i64 3, .bool true, .bool false, .bool false, .int .i64 0, .int .i64 0, .int .u8 0, .int .u16 0], .bool true]) ∧ Below w.heap.size w w' := by
  go_enter Try.func56, Try.ntmps56
  go_wp2
  refine bodyPost_ret (v := .tuple #[.agg #[.string ⟨#[]⟩, .int .u8 18, .int .i64 3, .bool true, .bool false, .bool false, .int .i64 0, .int .i64 0, .int .u8 0, .int .u16 0], .bool true]) (by simp [results, Try.results56, go_sem]) rfl ⟨rfl, by go_grown⟩
set_option maxRecDepth 100000 in
set_option maxHeartbeats 2000000 in
theorem ware_19 (w : World) : Calls Try.prog 56 #[.int .u8 19] w fun e' w' => e' = .returned (.tuple #[.agg #[.string ⟨#[]⟩, .int .u8 19, .int .i64 3, .bool true, .bool true, .bool false, .int .i64 0, .int .i64 0, .int .u8 0, .int .u16 0], .bool true]) ∧ Below w.heap.size w w' := by
  go_enter Try.func56, Try.ntmps56
  go_wp2
  refine bodyPost_ret (v := .tuple #[.agg #[.string ⟨#[]⟩, .int .u8 19, .int .i64 3, .bool true, .bool true, .bool false, .int .i64 0, .int .i64 0, .int .u8 0, .int .u16 0], .bool true]) (by simp [results, Try.results56, go_sem]) rfl ⟨rfl, by go_grown⟩
set_option maxRecDepth 100000 in
set_option maxHeartbeats 2000000 in
theorem ware_25 (w : World) : Calls Try.prog 56 #[.int .u8 25] w fun e' w' => e' = .returned (.tuple #[.agg #[.string ⟨#[]⟩, .int .u8 25, .int .i64 5, .bool false, .bool false, .bool false, .int .i64 0, .int .i64 0, .int .u8 0, .int .u16 0], .bool true]) ∧ Below w.heap.size w w' := by
  go_enter Try.func56, Try.ntmps56
  go_wp2
  refine bodyPost_ret (v := .tuple #[.agg #[.string ⟨#[]⟩, .int .u8 25, .int .i64 5, .bool false, .bool false, .bool false, .int .i64 0, .int .i64 0, .int .u8 0, .int .u16 0], .bool true]) (by simp [results, Try.results56, go_sem]) rfl ⟨rfl, by go_grown⟩
set_option maxRecDepth 100000 in
set_option maxHeartbeats 2000000 in
theorem ware_26 (w : World) : Calls Try.prog 56 #[.int .u8 26] w fun e' w' => e' = .returned (.tuple #[.agg #[.string ⟨#[]⟩, .int .u8 26, .int .i64 5, .bool true, .bool false, .bool false, .int .i64 0, .int .i64 0, .int .u8 0, .int .u16 0], .bool true]) ∧ Below w.heap.size w w' := by
  go_enter Try.func56, Try.ntmps56
  go_wp2
  refine bodyPost_ret (v := .tuple #[.agg #[.string ⟨#[]⟩, .int .u8 26, .int .i64 5, .bool true, .bool false, .bool false, .int .i64 0, .int .i64 0, .int .u8 0, .int .u16 0], .bool true]) (by simp [results, Try.results56, go_sem]) rfl ⟨rfl, by go_grown⟩
set_option maxRecDepth 100000 in
set_option maxHeartbeats 2000000 in
theorem ware_27 (w : World) : Calls Try.prog 56 #[.int .u8 27] w fun e' w' => e' = .returned (.tuple #[.agg #[.string ⟨#[]⟩, .int .u8 27, .int .i64 5, .bool true, .bool true, .bool false, .int .i64 0, .int .i64 0, .int .u8 0, .int .u16 0], .bool true]) ∧ Below w.heap.size w w' := by
  go_enter Try.func56, Try.ntmps56
  go_wp2
  refine bodyPost_ret (v := .tuple #[.agg #[.string ⟨#[]⟩, .int .u8 27, .int .i64 5, .bool true, .bool true, .bool false, .int .i64 0, .int .i64 0, .int .u8 0, .int .u16 0], .bool true]) (by simp [results, Try.results56, go_sem]) rfl ⟨rfl, by go_grown⟩
set_option maxRecDepth 100000 in
set_option maxHeartbeats 2000000 in
theorem ware_28 (w : World) : Calls Try.prog 56 #[.int .u8 28] w fun e' w' => e' = .returned (.tuple #[.agg #[.string ⟨#[]⟩, .int .u8 28, .int .i64 5, .bool false, .bool false, .bool false, .int .i64 0, .int .i64 0, .int .u8 0, .int .u16 0], .bool true]) ∧ Below w.heap.size w w' := by
  go_enter Try.func56, Try.ntmps56
  go_wp2
  refine bodyPost_ret (v := .tuple #[.agg #[.string ⟨#[]⟩, .int .u8 28, .int .i64 5, .bool false, .bool false, .bool false, .int .i64 0, .int .i64 0, .int .u8 0, .int .u16 0], .bool true]) (by simp [results, Try.results56, go_sem]) rfl ⟨rfl, by go_grown⟩
set_option maxRecDepth 100000 in
set_option maxHeartbeats 2000000 in
theorem ware_29 (w : World) : Calls Try.prog 56 #[.int .u8 29] w fun e' w' => e' = .returned (.tuple #[.agg #[.string ⟨#[]⟩, .int .u8 29, .int .i64 5, .bool true, .bool false, .bool false, .int .i64 0, .int .i64 0, .int .u8 0, .int .u16 0], .bool true]) ∧ Below w.heap.size w w' := by
  go_enter Try.func56, Try.ntmps56
  go_wp2
  refine bodyPost_ret (v := .tuple #[.agg #[.string ⟨#[]⟩, .int .u8 29, .int .i64 5, .bool true, .bool false, .bool false, .int .i64 0, .int .i64 0, .int .u8 0, .int .u16 0], .bool true]) (by simp [results, Try.results56, go_sem]) rfl ⟨rfl, by go_grown⟩
set_option maxRecDepth 100000 in
set_option maxHeartbeats 2000000 in
theorem ware_30 (w : World) : Calls Try.prog 56 #[.int .u8 30] w fun e' w' => e' = .returned (.tuple #[.agg #[.string ⟨#[]⟩, .int .u8 30, .int .i64 5, .bool true, .bool true, .bool false, .int .i64 0, .int .i64 0, .int .u8 0, .int .u16 0], .bool true]) ∧ Below w.heap.size w w' := by
  go_enter Try.func56, Try.ntmps56
  go_wp2
  refine bodyPost_ret (v := .tuple #[.agg #[.string ⟨#[]⟩, .int .u8 30, .int .i64 5, .bool true, .bool true, .bool false, .int .i64 0, .int .i64 0, .int .u8 0, .int .u16 0], .bool true]) (by simp [results, Try.results56, go_sem]) rfl ⟨rfl, by go_grown⟩
set_option maxRecDepth 100000 in
set_option maxHeartbeats 2000000 in
theorem ware_no_a (k : Int) (h0 : (k == 0) = false) (h8 : (k == 8) = false) (h9 : (k == 9) = false) (g0 : decide (k ≥ 1) = true) (g1 : decide (k ≤ 3) = false) (g2 : decide (k ≥ 15) = false) (g4 : decide (k ≥ 25) = false) (w : World) : Calls Try.prog 56 #[.int .u8 k] w fun e' w' => e' = .returned (.tuple #[.agg #[.string ⟨#[]⟩, .int .u8 0, .int .i64 0, .bool false, .bool false, .bool false, .int .i64 0, .int .i64 0, .int .u8 0, .int .u16 0], .bool false]) ∧ Below w.heap.size w w' := by
  go_enter Try.func56, Try.ntmps56
  go_wp2
  refine bodyPost_ret (v := .tuple #[.agg #[.string ⟨#[]⟩, .int .u8 0, .int .i64 0, .bool false, .bool false, .bool false, .int .i64 0, .int .i64 0, .int .u8 0, .int .u16 0], .bool false]) (by simp [results, Try.results56, go_sem]) rfl ⟨rfl, by go_grown⟩
set_option maxRecDepth 100000 in
set_option maxHeartbeats 2000000 in
theorem ware_no_b (k : Int) (h0 : (k == 0) = false) (h8 : (k == 8) = false) (h9 : (k == 9) = false) (g0 : decide (k ≥ 1) = true) (g1 : decide (k ≤ 3) = false) (g2 : decide (k ≥ 15) = true) (g3 : decide (k ≤ 19) = false) (g4 : decide (k ≥ 25) = false) (w : World) : Calls Try.prog 56 #[.int .u8 k] w fun e' w' => e' = .returned (.tuple #[.agg #[.string ⟨#[]⟩, .int .u8 0, .int .i64 0, .bool false, .bool false, .bool false, .int .i64 0, .int .i64 0, .int .u8 0, .int .u16 0], .bool false]) ∧ Below w.heap.size w w' := by
  go_enter Try.func56, Try.ntmps56
  go_wp2
  refine bodyPost_ret (v := .tuple #[.agg #[.string ⟨#[]⟩, .int .u8 0, .int .i64 0, .bool false, .bool false, .bool false, .int .i64 0, .int .i64 0, .int .u8 0, .int .u16 0], .bool false]) (by simp [results, Try.results56, go_sem]) rfl ⟨rfl, by go_grown⟩
set_option maxRecDepth 100000 in
set_option maxHeartbeats 2000000 in
theorem ware_no_c (k : Int) (h0 : (k == 0) = false) (h8 : (k == 8) = false) (h9 : (k == 9) = false) (g0 : decide (k ≥ 1) = true) (g1 : decide (k ≤ 3) = false) (g2 : decide (k ≥ 15) = true) (g3 : decide (k ≤ 19) = false) (g4 : decide (k ≥ 25) = true) (g5 : decide (k ≤ 30) = false) (w : World) : Calls Try.prog 56 #[.int .u8 k] w fun e' w' => e' = .returned (.tuple #[.agg #[.string ⟨#[]⟩, .int .u8 0, .int .i64 0, .bool false, .bool false, .bool false, .int .i64 0, .int .i64 0, .int .u8 0, .int .u16 0], .bool false]) ∧ Below w.heap.size w w' := by
  go_enter Try.func56, Try.ntmps56
  go_wp2
  refine bodyPost_ret (v := .tuple #[.agg #[.string ⟨#[]⟩, .int .u8 0, .int .i64 0, .bool false, .bool false, .bool false, .int .i64 0, .int .i64 0, .int .u8 0, .int .u16 0], .bool false]) (by simp [results, Try.results56, go_sem]) rfl ⟨rfl, by go_grown⟩
theorem header_ware.calls (k : Int) (hk : 0 ≤ k ∧ k ≤ 255) (w : World) : Calls Try.prog 56 #[.int .u8 k] w fun e' w' => e' = .returned (.tuple #[.agg #[.string ⟨#[]⟩, .int .u8 (if (wareT k).2.2.2.2 = true then k else 0), .int .i64 (wareT k).1, .bool (wareT k).2.1, .bool (wareT k).2.2.1, .bool (wareT k).2.2.2.1, .int .i64 0, .int .i64 0, .int .u8 0, .int .u16 0], .bool (wareT k).2.2.2.2]) ∧ Below w.heap.size w w' := by
  by_cases c0 : k = 0
  · subst c0; exact ware_0 w
  by_cases c1 : k = 1
  · subst c1; exact ware_1 w
  by_cases c2 : k = 2
  · subst c2; exact ware_2 w
  by_cases c3 : k = 3
  · subst c3; exact ware_3 w
  by_cases c8 : k = 8
  · subst c8; exact ware_8 w
  by_cases c9 : k = 9
  · subst c9; exact ware_9 w
  by_cases c15 : k = 15
  · subst c15; exact ware_15 w
  by_cases c16 : k = 16
  · subst c16; exact ware_16 w
  by_cases c17 : k = 17
  · subst c17; exact ware_17 w
  by_cases c18 : k = 18
  · subst c18; exact ware_18 w
  by_cases c19 : k = 19
  · subst c19; exact ware_19 w
  by_cases c25 : k = 25
  · subst c25; exact ware_25 w
  by_cases c26 : k = 26
  · subst c26; exact ware_26 w
  by_cases c27 : k = 27
  · subst c27; exact ware_27 w
  by_cases c28 : k = 28
  · subst c28; exact ware_28 w
  by_cases c29 : k = 29
  · subst c29; exact ware_29 w
  by_cases c30 : k = 30
  · subst c30; exact ware_30 w
  have e : wareT k = (0, false, false, false, false) := by unfold wareT; rw [if_neg c0, if_neg c1, if_neg c2, if_neg c3, if_neg c8, if_neg c9, if_neg c15, if_neg c16, if_neg c17, if_neg c18, if_neg c19, if_neg c25, if_neg c26, if_neg c27, if_neg c28, if_neg c29, if_neg c30]
  rw [e]
  have h0 : (k == 0) = false := beq_eq_false_iff_ne.mpr c0
  have h8 : (k == 8) = false := beq_eq_false_iff_ne.mpr c8
  have h9 : (k == 9) = false := beq_eq_false_iff_ne.mpr c9
  have g0 : decide (k ≥ 1) = true := decide_eq_true (by omega)
  have g1 : decide (k ≤ 3) = false := decide_eq_false (by omega)
  by_cases d15 : k ≥ 15
  · by_cases d25 : k ≥ 25
    · exact ware_no_c k h0 h8 h9 g0 g1 (decide_eq_true d15) (decide_eq_false (by omega)) (decide_eq_true d25) (decide_eq_false (by omega)) w
    · exact ware_no_b k h0 h8 h9 g0 g1 (decide_eq_true d15) (decide_eq_false (by omega)) (decide_eq_false d25) w
  · exact ware_no_a k h0 h8 h9 g0 g1 (decide_eq_false d15) (decide_eq_false (by omega)) w
end Go.Proofs.Ytmjjojbedllmgaa.Hand
end
section
namespace Go.Proofs.Ytmjjojbedllmgaa.G
open Go.RowKit Go.Proofs.YtmjjojbedllmgaaW.PrintWords Go.Proofs.YtmjjojbedllmgaaW.PrintLast Go.Proofs.YtmjjojbedllmgaaW.PrintMore
set_option linter.unusedVariables false
set_option linter.unusedSimpArgs false
def header_most.f (a0 : Int) : Option (Int) := if 0 ≤ a0 then (some (shl .i64 32768 a0)) else (none)
set_option maxHeartbeats 8000000 in
set_option maxRecDepth 100000 in
theorem header_most.calls (a0 : Int) (r : Int) (w : World) (h : header_most.f a0 = some r) :
    Calls Try.prog 57 #[.int .u8 a0] w fun e w' => e = .returned (.int .i64 r) ∧ Drawn0 w w' := by
  have H : (if 0 ≤ a0 then (some (shl .i64 32768 a0)) else (none)) = some r := h
  clear h
  by_cases c2 : 0 ≤ a0
  · rw [if_pos c2] at H
    have c2b0 := eq_true c2
    have c2b1 : decide (0 ≤ a0) = true := decide_eq_true c2
    clear c2
    obtain ⟨ji3, hji3⟩ : ∃ j_ : Int, (shl .i64 32768 a0) = j_ := ⟨_, rfl⟩
    replace H : (some ji3) = some r := by first | (rw [hji3] at H; exact H) | (simp only [hji3] at H ⊢; exact H)
    have hji3_ : (IntKind.i64.wrap (32768 * 2 ^ min a0.toNat 64)) = ji3 := hji3
    have hji3z : a0 ≤ 64 → (IntKind.i64.wrap (32768 * 2 ^ a0.toNat)) = ji3 := shl_small hji3
    have hji3y : (wrap64 (32768 * 2 ^ min a0.toNat 64)) = ji3 := (i64_w _).symm.trans hji3_
    have hji3x : a0 ≤ 64 → (wrap64 (32768 * 2 ^ a0.toNat)) = ji3 := fun h_ => (i64_w _).symm.trans (hji3z h_)
    obtain rfl := Option.some.inj H
    go_enter Try.func57, Try.ntmps57
    go_wp2
    go_ret
    exact ⟨by first | rfl | (simp; done) | (simp only [← hji3] <;> (first | rfl | simp)) | (simp [*]; done), by repeat (first | exact Drawn0.refl _ | apply Drawn0.step)⟩
  · rw [if_neg c2] at H
    exact absurd H (by simp)
end Go.Proofs.Ytmjjojbedllmgaa.G
end
section
namespace Go.Proofs.Ytmjjojbedllmgaa.G
open Go.RowKit Go.Proofs.YtmjjojbedllmgaaW.PrintWords Go.Proofs.YtmjjojbedllmgaaW.PrintLast Go.Proofs.YtmjjojbedllmgaaW.PrintMore
set_option linter.unusedVariables false
set_option linter.unusedSimpArgs false
def header_printable.f (a0 : Int) : Option (Bool) := if a0 ≥ 32 then (some (decide (a0 ≤ 126))) else (some false)
set_option maxHeartbeats 8000000 in
set_option maxRecDepth 100000 in
theorem header_printable.calls (a0 : Int) (r : Bool) (w : World) (h : header_printable.f a0 = some r) :
    Calls Try.prog 59 #[.int .u8 a0] w fun e w' => e = .returned (.bool r) ∧ Drawn0 w w' := by
  have H : (if a0 ≥ 32 then (some (decide (a0 ≤ 126))) else (some false)) = some r := h
  clear h
  by_cases c2 : a0 ≥ 32
  · rw [if_pos c2] at H
    have c2b0 : decide (32 ≤ a0) = true := decide_eq_true c2
    clear c2
    obtain rfl := Option.some.inj H
    go_enter Try.func59, Try.ntmps59
    go_wp2
    go_ret
    exact ⟨by first | rfl | (simp; done) | (simp [*]; done), by repeat (first | exact Drawn0.refl _ | apply Drawn0.step)⟩
  · rw [if_neg c2] at H
    have c2b0 : decide (32 ≤ a0) = false := decide_eq_false c2
    clear c2
    obtain rfl := Option.some.inj H
    go_enter Try.func59, Try.ntmps59
    go_wp2
    go_ret
    exact ⟨by first | rfl | (simp; done) | (simp [*]; done), by repeat (first | exact Drawn0.refl _ | apply Drawn0.step)⟩
end Go.Proofs.Ytmjjojbedllmgaa.G
end
section
namespace Go.Proofs.Ytmjjojbedllmgaa.Hand
open Go.RowKit
open Go.Proofs.Ytmjjojbedllmgaa.G
open Go.Proofs.YtmjjojbedllmgaaW.PrintWords Go.Proofs.YtmjjojbedllmgaaW.PrintLast Go.Proofs.YtmjjojbedllmgaaW.PrintMore
set_option linter.unusedVariables false
set_option linter.unusedSimpArgs false
set_option maxRecDepth 100000 in
set_option maxHeartbeats 4000000 in
theorem hparse_kind (A : Option Addr) (c : Nat) (l : List Int) (hl : 336 ≤ l.length) (w : World) (hr : Kd.C (Kd.int .u8) w A l.length l) (hc : l.length ≤ c) (hk : 0 ≤ rd l 327 ∧ rd l 327 ≤ 255) (hok : (wareT (rd l 327)).2.2.2.2 = false) :
    Calls Try.prog 28 #[.slice A l.length c] w fun e' w' => e' = .returned (.tuple #[.agg #[.string ⟨#[]⟩, .int .u8 0, .int .i64 0, .bool false, .bool false, .bool false, .int .i64 0, .int .i64 0, .int .u8 0, .int .u16 0], .int .i64 4]) ∧ Below w.heap.size w w' := by
  have hmf : ∀ (fn : Fn) (first cap : Array Value) (w : World), (Instr.makeFunc fn first cap).run Try.prog w = .ok (.func fn first cap) w := fun _ _ _ _ => rfl
  obtain ⟨ad, rfl, _⟩ := Kd.at_int hr 0 (by omega) (by omega)
  have HR := Aside0.mk hr
  have hli : (336 : Int) ≤ l.length := by omega
  have hci : (336 : Int) ≤ c := by omega
  clear hr
  go_enter_defers Try.func28, Try.ntmps28
  go_wp2_with fail
  have z0 := blk_alloc (blk_new w (.cells #[.string ⟨#[]⟩, .int .u8 0, .int .i64 0, .bool false, .bool false, .bool false, .int .i64 0, .int .i64 0, .int .u8 0, .int .u16 0] 30)) (.cells #[.int .i64 0] 26)
  have z1 := heap_alloc_new (w.alloc (.cells #[.string ⟨#[]⟩, .int .u8 0, .int .i64 0, .bool false, .bool false, .bool false, .int .i64 0, .int .i64 0, .int .u8 0, .int .u16 0] 30)) (.cells #[.int .i64 0] 26)
  rw [show (w.alloc (.cells #[.string ⟨#[]⟩, .int .u8 0, .int .i64 0, .bool false, .bool false, .bool false, .int .i64 0, .int .i64 0, .int .u8 0, .int .u16 0] 30)).heap.size = w.heap.size + 1 by simp] at z1
  have z2 := below_alloc (below_alloc (Below.refl w.heap.size w) (.cells #[.string ⟨#[]⟩, .int .u8 0, .int .i64 0, .bool false, .bool false, .bool false, .int .i64 0, .int .i64 0, .int .u8 0, .int .u16 0] 30)) (.cells #[.int .i64 0] 26)
  generalize (w.alloc (.cells #[.string ⟨#[]⟩, .int .u8 0, .int .i64 0, .bool false, .bool false, .bool false, .int .i64 0, .int .i64 0, .int .u8 0, .int .u16 0] 30)).alloc (.cells #[.int .i64 0] 26) = W0 at z0 z1 z2 ⊢
  refine (need_ok 2 _).mono ?_
  rintro e' w' ⟨rfl, hw⟩
  replace hw := hw.symm
  subst hw
  obtain ⟨ad', ea, c327⟩ := Kd.at_int (Kd.C_below HR.out z2) 327 (by omega) (by omega)
  obtain rfl := Option.some.inj ea
  clear ea
  replace c327 : W0.cell? ⟨ad.block, ad.off + 327, none⟩ = some (.int .u8 (rd l 327)) := c327
  go_wp2_with fail
  refine (header_ware.calls (rd l 327) hk _).mono ?_
  rintro e' w1 ⟨rfl, hb⟩
  have B0 := Aside0.mk (blk_below z0 hb)
  have B1 := Aside0.mk (blk_below z1 hb)
  have B2 := Aside0.mk (Below.trans z2 (hb.mono z2.size))
  clear z0 z1 z2 hb c327
  rw [hok]
  go_wp2_with fail
  refine (need_no 4 _).mono ?_
  rintro e' w' ⟨rfl, rfl⟩
  have C0 := blk_alloc B0.out (.cells #[.string ⟨#[]⟩, .int .u8 0, .int .i64 (wareT (rd l 327)).1, .bool (wareT (rd l 327)).2.1, .bool (wareT (rd l 327)).2.2.1, .bool (wareT (rd l 327)).2.2.2.1, .int .i64 0, .int .i64 0, .int .u8 0, .int .u16 0] 30)
  have C1 := blk_alloc B1.out (.cells #[.string ⟨#[]⟩, .int .u8 0, .int .i64 (wareT (rd l 327)).1, .bool (wareT (rd l 327)).2.1, .bool (wareT (rd l 327)).2.2.1, .bool (wareT (rd l 327)).2.2.2.1, .int .i64 0, .int .i64 0, .int .u8 0, .int .u16 0] 30)
  have C2 := below_alloc B2.out (.cells #[.string ⟨#[]⟩, .int .u8 0, .int .i64 (wareT (rd l 327)).1, .bool (wareT (rd l 327)).2.1, .bool (wareT (rd l 327)).2.2.1, .bool (wareT (rd l 327)).2.2.2.1, .int .i64 0, .int .i64 0, .int .u8 0, .int .u16 0] 30)
  generalize w1.alloc (.cells #[.string ⟨#[]⟩, .int .u8 0, .int .i64 (wareT (rd l 327)).1, .bool (wareT (rd l 327)).2.1, .bool (wareT (rd l 327)).2.2.1, .bool (wareT (rd l 327)).2.2.2.1, .int .i64 0, .int .i64 0, .int .u8 0, .int .u16 0] 30) = W1 at C0 C1 C2 ⊢
  refine leaves_cons (f := 53) (args := #[.pointer (some ⟨w.heap.size + 1, 0, none⟩)]) (by simp) (by simp [go_sem]) ?_
  refine (parse_panicking ⟨w.heap.size + 1, 0, none⟩ 0 4 [] _ ((blk_cell (C1) 0).trans rfl) (blk_frozen (C1) 0)).mono ?_
  rintro e u' w'' ⟨rfl, rfl, rfl⟩
  have m0 : ((W1).setCell ⟨w.heap.size + 1, 0, none⟩ (.int .i64 4)).heap[w.heap.size]? = some (.cells #[.string ⟨#[]⟩, .int .u8 0, .int .i64 0, .bool false, .bool false, .bool false, .int .i64 0, .int .i64 0, .int .u8 0, .int .u16 0] 30 (0, 0)) := blk_far (C0) (by simp) _
  have m1 : ((W1).setCell ⟨w.heap.size + 1, 0, none⟩ (.int .i64 4)).heap[w.heap.size + 1]? = some (.cells #[.int .i64 4] 26 (0, 0)) := blk_put (C1) 0 _ rfl
  have m2 : Below w.heap.size w ((W1).setCell ⟨w.heap.size + 1, 0, none⟩ (.int .i64 4)) := below_set (C2) (Nat.le_succ _)
  generalize ((W1).setCell ⟨w.heap.size + 1, 0, none⟩ (.int .i64 4)) = Y at m0 m1 m2 ⊢
  have u0 : Y.cell? ⟨w.heap.size, 0, none⟩ = some (.string ⟨#[]⟩) := (blk_cell m0 0).trans rfl
  have u1 : Y.cell? ⟨w.heap.size, 1, none⟩ = some (.int .u8 0) := (blk_cell m0 1).trans rfl
  have u2 : Y.cell? ⟨w.heap.size, 2, none⟩ = some (.int .i64 0) := (blk_cell m0 2).trans rfl
  have u3 : Y.cell? ⟨w.heap.size, 3, none⟩ = some (.bool false) := (blk_cell m0 3).trans rfl
  have u4 : Y.cell? ⟨w.heap.size, 4, none⟩ = some (.bool false) := (blk_cell m0 4).trans rfl
  have u5 : Y.cell? ⟨w.heap.size, 5, none⟩ = some (.bool false) := (blk_cell m0 5).trans rfl
  have u6 : Y.cell? ⟨w.heap.size, 6, none⟩ = some (.int .i64 0) := (blk_cell m0 6).trans rfl
  have u7 : Y.cell? ⟨w.heap.size, 7, none⟩ = some (.int .i64 0) := (blk_cell m0 7).trans rfl
  have u8 : Y.cell? ⟨w.heap.size, 8, none⟩ = some (.int .u8 0) := (blk_cell m0 8).trans rfl
  have u9 : Y.cell? ⟨w.heap.size, 9, none⟩ = some (.int .u16 0) := (blk_cell m0 9).trans rfl
  have v0 : Y.cell? ⟨w.heap.size + 1, 0, none⟩ = some (.int .i64 4) := (blk_cell m1 0).trans rfl
  simp [Leaves, settle, results, Try.results28, go_sem, u0, u1, u2, u3, u4, u5, u6, u7, u8, u9, v0, m2]
set_option maxRecDepth 100000 in
set_option maxHeartbeats 4000000 in
theorem hparse_size_a (A : Option Addr) (c : Nat) (l : List Int) (hl : 336 ≤ l.length) (w : World) (hr : Kd.C (Kd.int .u8) w A l.length l) (hc : l.length ≤ c) (hk : 0 ≤ rd l 327 ∧ rd l 327 ≤ 255) (hok : (wareT (rd l 327)).2.2.2.2 = true) (h8 : decide (rd l 328 ≤ 8) = false) :
    Calls Try.prog 28 #[.slice A l.length c] w fun e' w' => e' = .returned (.tuple #[.agg #[.string ⟨#[]⟩, .int .u8 0, .int .i64 0, .bool false, .bool false, .bool false, .int .i64 0, .int .i64 0, .int .u8 0, .int .u16 0], .int .i64 5]) ∧ Below w.heap.size w w' := by
  have hmf : ∀ (fn : Fn) (first cap : Array Value) (w : World), (Instr.makeFunc fn first cap).run Try.prog w = .ok (.func fn first cap) w := fun _ _ _ _ => rfl
  obtain ⟨ad, rfl, _⟩ := Kd.at_int hr 0 (by omega) (by omega)
  have HR := Aside0.mk hr
  have hli : (336 : Int) ≤ l.length := by omega
  have hci : (336 : Int) ≤ c := by omega
  clear hr
  go_enter_defers Try.func28, Try.ntmps28
  go_wp2_with fail
  have z0 := blk_alloc (blk_new w (.cells #[.string ⟨#[]⟩, .int .u8 0, .int .i64 0, .bool false, .bool false, .bool false, .int .i64 0, .int .i64 0, .int .u8 0, .int .u16 0] 30)) (.cells #[.int .i64 0] 26)
  have z1 := heap_alloc_new (w.alloc (.cells #[.string ⟨#[]⟩, .int .u8 0, .int .i64 0, .bool false, .bool false, .bool false, .int .i64 0, .int .i64 0, .int .u8 0, .int .u16 0] 30)) (.cells #[.int .i64 0] 26)
  rw [show (w.alloc (.cells #[.string ⟨#[]⟩, .int .u8 0, .int .i64 0, .bool false, .bool false, .bool false, .int .i64 0, .int .i64 0, .int .u8 0, .int .u16 0] 30)).heap.size = w.heap.size + 1 by simp] at z1
  have z2 := below_alloc (below_alloc (Below.refl w.heap.size w) (.cells #[.string ⟨#[]⟩, .int .u8 0, .int .i64 0, .bool false, .bool false, .bool false, .int .i64 0, .int .i64 0, .int .u8 0, .int .u16 0] 30)) (.cells #[.int .i64 0] 26)
  generalize (w.alloc (.cells #[.string ⟨#[]⟩, .int .u8 0, .int .i64 0, .bool false, .bool false, .bool false, .int .i64 0, .int .i64 0, .int .u8 0, .int .u16 0] 30)).alloc (.cells #[.int .i64 0] 26) = W0 at z0 z1 z2 ⊢
  refine (need_ok 2 _).mono ?_
  rintro e' w' ⟨rfl, hw⟩
  replace hw := hw.symm
  subst hw
  obtain ⟨ad', ea, c327⟩ := Kd.at_int (Kd.C_below HR.out z2) 327 (by omega) (by omega)
  obtain rfl := Option.some.inj ea
  clear ea
  replace c327 : W0.cell? ⟨ad.block, ad.off + 327, none⟩ = some (.int .u8 (rd l 327)) := c327
  go_wp2_with fail
  refine (header_ware.calls (rd l 327) hk _).mono ?_
  rintro e' w1 ⟨rfl, hb⟩
  have B0 := Aside0.mk (blk_below z0 hb)
  have B1 := Aside0.mk (blk_below z1 hb)
  have B2 := Aside0.mk (Below.trans z2 (hb.mono z2.size))
  clear z0 z1 z2 hb c327
  rw [hok]
  go_wp2_with fail
  refine (need_ok 4 _).mono ?_
  rintro e' w' ⟨rfl, rfl⟩
  have hg : w.heap.size + 1 < w1.heap.size := blk_lt B1.out
  have C0 := Aside0.mk (blk_alloc B0.out (.cells #[.string ⟨#[]⟩, .int .u8 (rd l 327), .int .i64 (wareT (rd l 327)).1, .bool (wareT (rd l 327)).2.1, .bool (wareT (rd l 327)).2.2.1, .bool (wareT (rd l 327)).2.2.2.1, .int .i64 0, .int .i64 0, .int .u8 0, .int .u16 0] 30))
  have C1 := Aside0.mk (blk_alloc B1.out (.cells #[.string ⟨#[]⟩, .int .u8 (rd l 327), .int .i64 (wareT (rd l 327)).1, .bool (wareT (rd l 327)).2.1, .bool (wareT (rd l 327)).2.2.1, .bool (wareT (rd l 327)).2.2.2.1, .int .i64 0, .int .i64 0, .int .u8 0, .int .u16 0] 30))
  have C2 := Aside0.mk (below_alloc B2.out (.cells #[.string ⟨#[]⟩, .int .u8 (rd l 327), .int .i64 (wareT (rd l 327)).1, .bool (wareT (rd l 327)).2.1, .bool (wareT (rd l 327)).2.2.1, .bool (wareT (rd l 327)).2.2.2.1, .int .i64 0, .int .i64 0, .int .u8 0, .int .u16 0] 30))
  have C3 := Aside0.mk (heap_alloc_new w1 (.cells #[.string ⟨#[]⟩, .int .u8 (rd l 327), .int .i64 (wareT (rd l 327)).1, .bool (wareT (rd l 327)).2.1, .bool (wareT (rd l 327)).2.2.1, .bool (wareT (rd l 327)).2.2.2.1, .int .i64 0, .int .i64 0, .int .u8 0, .int .u16 0] 30))
  generalize w1.alloc (.cells #[.string ⟨#[]⟩, .int .u8 (rd l 327), .int .i64 (wareT (rd l 327)).1, .bool (wareT (rd l 327)).2.1, .bool (wareT (rd l 327)).2.2.1, .bool (wareT (rd l 327)).2.2.2.1, .int .i64 0, .int .i64 0, .int .u8 0, .int .u16 0] 30) = W1 at C0 C1 C2 C3 ⊢
  generalize w1.heap.size = gx at hg C3 ⊢
  clear B0 B1 B2
  dsimp only
  obtain ⟨ad', ea, c328⟩ := Kd.at_int (Kd.C_below HR.out C2.out) 328 (by omega) (by omega)
  obtain rfl := Option.some.inj ea
  clear ea
  replace c328 : W1.cell? ⟨ad.block, ad.off + 328, none⟩ = some (.int .u8 (rd l 328)) := c328
  obtain ⟨ad', ea, c329⟩ := Kd.at_int (Kd.C_below HR.out C2.out) 329 (by omega) (by omega)
  obtain rfl := Option.some.inj ea
  clear ea
  replace c329 : W1.cell? ⟨ad.block, ad.off + 329, none⟩ = some (.int .u8 (rd l 329)) := c329
  go_wp2_with fail
  go_quiet (fail)
  go_wp2_with fail
  refine (need_no 5 _).mono ?_
  rintro e' w' ⟨rfl, rfl⟩
  have D0 := blk_drewN (C0.out) nq
  have D1 := blk_drewN (C1.out) nq
  have D2 := pw_below_drewN C2.out nq
  generalize W1.drewN nq = W2 at D0 D1 D2 ⊢
  refine leaves_cons (f := 53) (args := #[.pointer (some ⟨w.heap.size + 1, 0, none⟩)]) (by simp) (by simp [go_sem]) ?_
  refine (parse_panicking ⟨w.heap.size + 1, 0, none⟩ 0 5 [] _ ((blk_cell (D1) 0).trans rfl) (blk_frozen (D1) 0)).mono ?_
  rintro e u' w'' ⟨rfl, rfl, rfl⟩
  have m0 : ((W2).setCell ⟨w.heap.size + 1, 0, none⟩ (.int .i64 5)).heap[w.heap.size]? = some (.cells #[.string ⟨#[]⟩, .int .u8 0, .int .i64 0, .bool false, .bool false, .bool false, .int .i64 0, .int .i64 0, .int .u8 0, .int .u16 0] 30 (0, 0)) := blk_far (D0) (by simp) _
  have m1 : ((W2).setCell ⟨w.heap.size + 1, 0, none⟩ (.int .i64 5)).heap[w.heap.size + 1]? = some (.cells #[.int .i64 5] 26 (0, 0)) := blk_put (D1) 0 _ rfl
  have m2 : Below w.heap.size w ((W2).setCell ⟨w.heap.size + 1, 0, none⟩ (.int .i64 5)) := below_set (D2) (Nat.le_succ _)
  generalize ((W2).setCell ⟨w.heap.size + 1, 0, none⟩ (.int .i64 5)) = Y at m0 m1 m2 ⊢
  have u0 : Y.cell? ⟨w.heap.size, 0, none⟩ = some (.string ⟨#[]⟩) := (blk_cell m0 0).trans rfl
  have u1 : Y.cell? ⟨w.heap.size, 1, none⟩ = some (.int .u8 0) := (blk_cell m0 1).trans rfl
  have u2 : Y.cell? ⟨w.heap.size, 2, none⟩ = some (.int .i64 0) := (blk_cell m0 2).trans rfl
  have u3 : Y.cell? ⟨w.heap.size, 3, none⟩ = some (.bool false) := (blk_cell m0 3).trans rfl
  have u4 : Y.cell? ⟨w.heap.size, 4, none⟩ = some (.bool false) := (blk_cell m0 4).trans rfl
  have u5 : Y.cell? ⟨w.heap.size, 5, none⟩ = some (.bool false) := (blk_cell m0 5).trans rfl
  have u6 : Y.cell? ⟨w.heap.size, 6, none⟩ = some (.int .i64 0) := (blk_cell m0 6).trans rfl
  have u7 : Y.cell? ⟨w.heap.size, 7, none⟩ = some (.int .i64 0) := (blk_cell m0 7).trans rfl
  have u8 : Y.cell? ⟨w.heap.size, 8, none⟩ = some (.int .u8 0) := (blk_cell m0 8).trans rfl
  have u9 : Y.cell? ⟨w.heap.size, 9, none⟩ = some (.int .u16 0) := (blk_cell m0 9).trans rfl
  have v0 : Y.cell? ⟨w.heap.size + 1, 0, none⟩ = some (.int .i64 5) := (blk_cell m1 0).trans rfl
  simp [Leaves, settle, results, Try.results28, go_sem, u0, u1, u2, u3, u4, u5, u6, u7, u8, u9, v0, m2]
set_option maxRecDepth 100000 in
set_option maxHeartbeats 4000000 in
theorem hparse_size_b (A : Option Addr) (c : Nat) (l : List Int) (hl : 336 ≤ l.length) (w : World) (hr : Kd.C (Kd.int .u8) w A l.length l) (hc : l.length ≤ c) (hk : 0 ≤ rd l 327 ∧ rd l 327 ≤ 255) (hok : (wareT (rd l 327)).2.2.2.2 = true) (h8 : decide (rd l 328 ≤ 8) = true) (h5 : decide (rd l 329 ≤ 5) = false) :
    Calls Try.prog 28 #[.slice A l.length c] w fun e' w' => e' = .returned (.tuple #[.agg #[.string ⟨#[]⟩, .int .u8 0, .int .i64 0, .bool false, .bool false, .bool false, .int .i64 0, .int .i64 0, .int .u8 0, .int .u16 0], .int .i64 5]) ∧ Below w.heap.size w w' := by
  have hmf : ∀ (fn : Fn) (first cap : Array Value) (w : World), (Instr.makeFunc fn first cap).run Try.prog w = .ok (.func fn first cap) w := fun _ _ _ _ => rfl
  obtain ⟨ad, rfl, _⟩ := Kd.at_int hr 0 (by omega) (by omega)
  have HR := Aside0.mk hr
  have hli : (336 : Int) ≤ l.length := by omega
  have hci : (336 : Int) ≤ c := by omega
  clear hr
  go_enter_defers Try.func28, Try.ntmps28
  go_wp2_with fail
  have z0 := blk_alloc (blk_new w (.cells #[.string ⟨#[]⟩, .int .u8 0, .int .i64 0, .bool false, .bool false, .bool false, .int .i64 0, .int .i64 0, .int .u8 0, .int .u16 0] 30)) (.cells #[.int .i64 0] 26)
  have z1 := heap_alloc_new (w.alloc (.cells #[.string ⟨#[]⟩, .int .u8 0, .int .i64 0, .bool false, .bool false, .bool false, .int .i64 0, .int .i64 0, .int .u8 0, .int .u16 0] 30)) (.cells #[.int .i64 0] 26)
  rw [show (w.alloc (.cells #[.string ⟨#[]⟩, .int .u8 0, .int .i64 0, .bool false, .bool false, .bool false, .int .i64 0, .int .i64 0, .int .u8 0, .int .u16 0] 30)).heap.size = w.heap.size + 1 by simp] at z1
  have z2 := below_alloc (below_alloc (Below.refl w.heap.size w) (.cells #[.string ⟨#[]⟩, .int .u8 0, .int .i64 0, .bool false, .bool false, .bool false, .int .i64 0, .int .i64 0, .int .u8 0, .int .u16 0] 30)) (.cells #[.int .i64 0] 26)
  generalize (w.alloc (.cells #[.string ⟨#[]⟩, .int .u8 0, .int .i64 0, .bool false, .bool false, .bool false, .int .i64 0, .int .i64 0, .int .u8 0, .int .u16 0] 30)).alloc (.cells #[.int .i64 0] 26) = W0 at z0 z1 z2 ⊢
  refine (need_ok 2 _).mono ?_
  rintro e' w' ⟨rfl, hw⟩
  replace hw := hw.symm
  subst hw
  obtain ⟨ad', ea, c327⟩ := Kd.at_int (Kd.C_below HR.out z2) 327 (by omega) (by omega)
  obtain rfl := Option.some.inj ea
  clear ea
  replace c327 : W0.cell? ⟨ad.block, ad.off + 327, none⟩ = some (.int .u8 (rd l 327)) := c327
  go_wp2_with fail
  refine (header_ware.calls (rd l 327) hk _).mono ?_
  rintro e' w1 ⟨rfl, hb⟩
  have B0 := Aside0.mk (blk_below z0 hb)
  have B1 := Aside0.mk (blk_below z1 hb)
  have B2 := Aside0.mk (Below.trans z2 (hb.mono z2.size))
  clear z0 z1 z2 hb c327
  rw [hok]
  go_wp2_with fail
  refine (need_ok 4 _).mono ?_
  rintro e' w' ⟨rfl, rfl⟩
  have hg : w.heap.size + 1 < w1.heap.size := blk_lt B1.out
  have C0 := Aside0.mk (blk_alloc B0.out (.cells #[.string ⟨#[]⟩, .int .u8 (rd l 327), .int .i64 (wareT (rd l 327)).1, .bool (wareT (rd l 327)).2.1, .bool (wareT (rd l 327)).2.2.1, .bool (wareT (rd l 327)).2.2.2.1, .int .i64 0, .int .i64 0, .int .u8 0, .int .u16 0] 30))
  have C1 := Aside0.mk (blk_alloc B1.out (.cells #[.string ⟨#[]⟩, .int .u8 (rd l 327), .int .i64 (wareT (rd l 327)).1, .bool (wareT (rd l 327)).2.1, .bool (wareT (rd l 327)).2.2.1, .bool (wareT (rd l 327)).2.2.2.1, .int .i64 0, .int .i64 0, .int .u8 0, .int .u16 0] 30))
  have C2 := Aside0.mk (below_alloc B2.out (.cells #[.string ⟨#[]⟩, .int .u8 (rd l 327), .int .i64 (wareT (rd l 327)).1, .bool (wareT (rd l 327)).2.1, .bool (wareT (rd l 327)).2.2.1, .bool (wareT (rd l 327)).2.2.2.1, .int .i64 0, .int .i64 0, .int .u8 0, .int .u16 0] 30))
  have C3 := Aside0.mk (heap_alloc_new w1 (.cells #[.string ⟨#[]⟩, .int .u8 (rd l 327), .int .i64 (wareT (rd l 327)).1, .bool (wareT (rd l 327)).2.1, .bool (wareT (rd l 327)).2.2.1, .bool (wareT (rd l 327)).2.2.2.1, .int .i64 0, .int .i64 0, .int .u8 0, .int .u16 0] 30))
  generalize w1.alloc (.cells #[.string ⟨#[]⟩, .int .u8 (rd l 327), .int .i64 (wareT (rd l 327)).1, .bool (wareT (rd l 327)).2.1, .bool (wareT (rd l 327)).2.2.1, .bool (wareT (rd l 327)).2.2.2.1, .int .i64 0, .int .i64 0, .int .u8 0, .int .u16 0] 30) = W1 at C0 C1 C2 C3 ⊢
  generalize w1.heap.size = gx at hg C3 ⊢
  clear B0 B1 B2
  dsimp only
  obtain ⟨ad', ea, c328⟩ := Kd.at_int (Kd.C_below HR.out C2.out) 328 (by omega) (by omega)
  obtain rfl := Option.some.inj ea
  clear ea
  replace c328 : W1.cell? ⟨ad.block, ad.off + 328, none⟩ = some (.int .u8 (rd l 328)) := c328
  obtain ⟨ad', ea, c329⟩ := Kd.at_int (Kd.C_below HR.out C2.out) 329 (by omega) (by omega)
  obtain rfl := Option.some.inj ea
  clear ea
  replace c329 : W1.cell? ⟨ad.block, ad.off + 329, none⟩ = some (.int .u8 (rd l 329)) := c329
  go_wp2_with fail
  go_quiet (fail)
  go_wp2_with fail
  refine (need_no 5 _).mono ?_
  rintro e' w' ⟨rfl, rfl⟩
  have D0 := blk_drewN (C0.out) nq
  have D1 := blk_drewN (C1.out) nq
  have D2 := pw_below_drewN C2.out nq
  generalize W1.drewN nq = W2 at D0 D1 D2 ⊢
  refine leaves_cons (f := 53) (args := #[.pointer (some ⟨w.heap.size + 1, 0, none⟩)]) (by simp) (by simp [go_sem]) ?_
  refine (parse_panicking ⟨w.heap.size + 1, 0, none⟩ 0 5 [] _ ((blk_cell (D1) 0).trans rfl) (blk_frozen (D1) 0)).mono ?_
  rintro e u' w'' ⟨rfl, rfl, rfl⟩
  have m0 : ((W2).setCell ⟨w.heap.size + 1, 0, none⟩ (.int .i64 5)).heap[w.heap.size]? = some (.cells #[.string ⟨#[]⟩, .int .u8 0, .int .i64 0, .bool false, .bool false, .bool false, .int .i64 0, .int .i64 0, .int .u8 0, .int .u16 0] 30 (0, 0)) := blk_far (D0) (by simp) _
  have m1 : ((W2).setCell ⟨w.heap.size + 1, 0, none⟩ (.int .i64 5)).heap[w.heap.size + 1]? = some (.cells #[.int .i64 5] 26 (0, 0)) := blk_put (D1) 0 _ rfl
  have m2 : Below w.heap.size w ((W2).setCell ⟨w.heap.size + 1, 0, none⟩ (.int .i64 5)) := below_set (D2) (Nat.le_succ _)
  generalize ((W2).setCell ⟨w.heap.size + 1, 0, none⟩ (.int .i64 5)) = Y at m0 m1 m2 ⊢
  have u0 : Y.cell? ⟨w.heap.size, 0, none⟩ = some (.string ⟨#[]⟩) := (blk_cell m0 0).trans rfl
  have u1 : Y.cell? ⟨w.heap.size, 1, none⟩ = some (.int .u8 0) := (blk_cell m0 1).trans rfl
  have u2 : Y.cell? ⟨w.heap.size, 2, none⟩ = some (.int .i64 0) := (blk_cell m0 2).trans rfl
  have u3 : Y.cell? ⟨w.heap.size, 3, none⟩ = some (.bool false) := (blk_cell m0 3).trans rfl
  have u4 : Y.cell? ⟨w.heap.size, 4, none⟩ = some (.bool false) := (blk_cell m0 4).trans rfl
  have u5 : Y.cell? ⟨w.heap.size, 5, none⟩ = some (.bool false) := (blk_cell m0 5).trans rfl
  have u6 : Y.cell? ⟨w.heap.size, 6, none⟩ = some (.int .i64 0) := (blk_cell m0 6).trans rfl
  have u7 : Y.cell? ⟨w.heap.size, 7, none⟩ = some (.int .i64 0) := (blk_cell m0 7).trans rfl
  have u8 : Y.cell? ⟨w.heap.size, 8, none⟩ = some (.int .u8 0) := (blk_cell m0 8).trans rfl
  have u9 : Y.cell? ⟨w.heap.size, 9, none⟩ = some (.int .u16 0) := (blk_cell m0 9).trans rfl
  have v0 : Y.cell? ⟨w.heap.size + 1, 0, none⟩ = some (.int .i64 5) := (blk_cell m1 0).trans rfl
  simp [Leaves, settle, results, Try.results28, go_sem, u0, u1, u2, u3, u4, u5, u6, u7, u8, u9, v0, m2]
set_option maxRecDepth 100000 in
set_option maxHeartbeats 4000000 in
theorem hparse_size_c (A : Option Addr) (c : Nat) (l : List Int) (hl : 336 ≤ l.length) (w : World) (hr : Kd.C (Kd.int .u8) w A l.length l) (hc : l.length ≤ c) (hk : 0 ≤ rd l 327 ∧ rd l 327 ≤ 255) (hok : (wareT (rd l 327)).2.2.2.2 = true) (h80 : 0 ≤ rd l 328) (h8 : decide (rd l 328 ≤ 8) = true) (h5 : decide (rd l 329 ≤ 5) = true) (hm : decide ((l.length : Int) ≤ shl .i64 32768 (rd l 328)) = false) :
    Calls Try.prog 28 #[.slice A l.length c] w fun e' w' => e' = .returned (.tuple #[.agg #[.string ⟨#[]⟩, .int .u8 0, .int .i64 0, .bool false, .bool false, .bool false, .int .i64 0, .int .i64 0, .int .u8 0, .int .u16 0], .int .i64 5]) ∧ Below w.heap.size w w' := by
  have hmf : ∀ (fn : Fn) (first cap : Array Value) (w : World), (Instr.makeFunc fn first cap).run Try.prog w = .ok (.func fn first cap) w := fun _ _ _ _ => rfl
  obtain ⟨ad, rfl, _⟩ := Kd.at_int hr 0 (by omega) (by omega)
  have HR := Aside0.mk hr
  have hli : (336 : Int) ≤ l.length := by omega
  have hci : (336 : Int) ≤ c := by omega
  clear hr
  go_enter_defers Try.func28, Try.ntmps28
  go_wp2_with fail
  have z0 := blk_alloc (blk_new w (.cells #[.string ⟨#[]⟩, .int .u8 0, .int .i64 0, .bool false, .bool false, .bool false, .int .i64 0, .int .i64 0, .int .u8 0, .int .u16 0] 30)) (.cells #[.int .i64 0] 26)
  have z1 := heap_alloc_new (w.alloc (.cells #[.string ⟨#[]⟩, .int .u8 0, .int .i64 0, .bool false, .bool false, .bool false, .int .i64 0, .int .i64 0, .int .u8 0, .int .u16 0] 30)) (.cells #[.int .i64 0] 26)
  rw [show (w.alloc (.cells #[.string ⟨#[]⟩, .int .u8 0, .int .i64 0, .bool false, .bool false, .bool false, .int .i64 0, .int .i64 0, .int .u8 0, .int .u16 0] 30)).heap.size = w.heap.size + 1 by simp] at z1
  have z2 := below_alloc (below_alloc (Below.refl w.heap.size w) (.cells #[.string ⟨#[]⟩, .int .u8 0, .int .i64 0, .bool false, .bool false, .bool false, .int .i64 0, .int .i64 0, .int .u8 0, .int .u16 0] 30)) (.cells #[.int .i64 0] 26)
  generalize (w.alloc (.cells #[.string ⟨#[]⟩, .int .u8 0, .int .i64 0, .bool false, .bool false, .bool false, .int .i64 0, .int .i64 0, .int .u8 0, .int .u16 0] 30)).alloc (.cells #[.int .i64 0] 26) = W0 at z0 z1 z2 ⊢
  refine (need_ok 2 _).mono ?_
  rintro e' w' ⟨rfl, hw⟩
  replace hw := hw.symm
  subst hw
  obtain ⟨ad', ea, c327⟩ := Kd.at_int (Kd.C_below HR.out z2) 327 (by omega) (by omega)
  obtain rfl := Option.some.inj ea
  clear ea
  replace c327 : W0.cell? ⟨ad.block, ad.off + 327, none⟩ = some (.int .u8 (rd l 327)) := c327
  go_wp2_with fail
  refine (header_ware.calls (rd l 327) hk _).mono ?_
  rintro e' w1 ⟨rfl, hb⟩
  have B0 := Aside0.mk (blk_below z0 hb)
  have B1 := Aside0.mk (blk_below z1 hb)
  have B2 := Aside0.mk (Below.trans z2 (hb.mono z2.size))
  clear z0 z1 z2 hb c327
  rw [hok]
  go_wp2_with fail
  refine (need_ok 4 _).mono ?_
  rintro e' w' ⟨rfl, rfl⟩
  have hg : w.heap.size + 1 < w1.heap.size := blk_lt B1.out
  have C0 := Aside0.mk (blk_alloc B0.out (.cells #[.string ⟨#[]⟩, .int .u8 (rd l 327), .int .i64 (wareT (rd l 327)).1, .bool (wareT (rd l 327)).2.1, .bool (wareT (rd l 327)).2.2.1, .bool (wareT (rd l 327)).2.2.2.1, .int .i64 0, .int .i64 0, .int .u8 0, .int .u16 0] 30))
  have C1 := Aside0.mk (blk_alloc B1.out (.cells #[.string ⟨#[]⟩, .int .u8 (rd l 327), .int .i64 (wareT (rd l 327)).1, .bool (wareT (rd l 327)).2.1, .bool (wareT (rd l 327)).2.2.1, .bool (wareT (rd l 327)).2.2.2.1, .int .i64 0, .int .i64 0, .int .u8 0, .int .u16 0] 30))
  have C2 := Aside0.mk (below_alloc B2.out (.cells #[.string ⟨#[]⟩, .int .u8 (rd l 327), .int .i64 (wareT (rd l 327)).1, .bool (wareT (rd l 327)).2.1, .bool (wareT (rd l 327)).2.2.1, .bool (wareT (rd l 327)).2.2.2.1, .int .i64 0, .int .i64 0, .int .u8 0, .int .u16 0] 30))
  have C3 := Aside0.mk (heap_alloc_new w1 (.cells #[.string ⟨#[]⟩, .int .u8 (rd l 327), .int .i64 (wareT (rd l 327)).1, .bool (wareT (rd l 327)).2.1, .bool (wareT (rd l 327)).2.2.1, .bool (wareT (rd l 327)).2.2.2.1, .int .i64 0, .int .i64 0, .int .u8 0, .int .u16 0] 30))
  generalize w1.alloc (.cells #[.string ⟨#[]⟩, .int .u8 (rd l 327), .int .i64 (wareT (rd l 327)).1, .bool (wareT (rd l 327)).2.1, .bool (wareT (rd l 327)).2.2.1, .bool (wareT (rd l 327)).2.2.2.1, .int .i64 0, .int .i64 0, .int .u8 0, .int .u16 0] 30) = W1 at C0 C1 C2 C3 ⊢
  generalize w1.heap.size = gx at hg C3 ⊢
  clear B0 B1 B2
  dsimp only
  obtain ⟨ad', ea, c328⟩ := Kd.at_int (Kd.C_below HR.out C2.out) 328 (by omega) (by omega)
  obtain rfl := Option.some.inj ea
  clear ea
  replace c328 : W1.cell? ⟨ad.block, ad.off + 328, none⟩ = some (.int .u8 (rd l 328)) := c328
  obtain ⟨ad', ea, c329⟩ := Kd.at_int (Kd.C_below HR.out C2.out) 329 (by omega) (by omega)
  obtain rfl := Option.some.inj ea
  clear ea
  replace c329 : W1.cell? ⟨ad.block, ad.off + 329, none⟩ = some (.int .u8 (rd l 329)) := c329
  go_wp2_with fail
  go_quiet (fail)
  go_wp2_with fail
  (with_reducible refine (header_most.calls (rd l 328) _ _ (by unfold header_most.f; rw [if_pos h80])).mono ?_)
  rintro e' w' ⟨rfl, ⟨nd, rfl⟩⟩
  go_wp2_with fail
  refine (need_no 5 _).mono ?_
  rintro e' w' ⟨rfl, rfl⟩
  have D0 := blk_drewN (C0.out) (nq + nd)
  have D1 := blk_drewN (C1.out) (nq + nd)
  have D2 := pw_below_drewN C2.out (nq + nd)
  generalize W1.drewN (nq + nd) = W2 at D0 D1 D2 ⊢
  refine leaves_cons (f := 53) (args := #[.pointer (some ⟨w.heap.size + 1, 0, none⟩)]) (by simp) (by simp [go_sem]) ?_
  refine (parse_panicking ⟨w.heap.size + 1, 0, none⟩ 0 5 [] _ ((blk_cell (D1) 0).trans rfl) (blk_frozen (D1) 0)).mono ?_
  rintro e u' w'' ⟨rfl, rfl, rfl⟩
  have m0 : ((W2).setCell ⟨w.heap.size + 1, 0, none⟩ (.int .i64 5)).heap[w.heap.size]? = some (.cells #[.string ⟨#[]⟩, .int .u8 0, .int .i64 0, .bool false, .bool false, .bool false, .int .i64 0, .int .i64 0, .int .u8 0, .int .u16 0] 30 (0, 0)) := blk_far (D0) (by simp) _
  have m1 : ((W2).setCell ⟨w.heap.size + 1, 0, none⟩ (.int .i64 5)).heap[w.heap.size + 1]? = some (.cells #[.int .i64 5] 26 (0, 0)) := blk_put (D1) 0 _ rfl
  have m2 : Below w.heap.size w ((W2).setCell ⟨w.heap.size + 1, 0, none⟩ (.int .i64 5)) := below_set (D2) (Nat.le_succ _)
  generalize ((W2).setCell ⟨w.heap.size + 1, 0, none⟩ (.int .i64 5)) = Y at m0 m1 m2 ⊢
  have u0 : Y.cell? ⟨w.heap.size, 0, none⟩ = some (.string ⟨#[]⟩) := (blk_cell m0 0).trans rfl
  have u1 : Y.cell? ⟨w.heap.size, 1, none⟩ = some (.int .u8 0) := (blk_cell m0 1).trans rfl
  have u2 : Y.cell? ⟨w.heap.size, 2, none⟩ = some (.int .i64 0) := (blk_cell m0 2).trans rfl
  have u3 : Y.cell? ⟨w.heap.size, 3, none⟩ = some (.bool false) := (blk_cell m0 3).trans rfl
  have u4 : Y.cell? ⟨w.heap.size, 4, none⟩ = some (.bool false) := (blk_cell m0 4).trans rfl
  have u5 : Y.cell? ⟨w.heap.size, 5, none⟩ = some (.bool false) := (blk_cell m0 5).trans rfl
  have u6 : Y.cell? ⟨w.heap.size, 6, none⟩ = some (.int .i64 0) := (blk_cell m0 6).trans rfl
  have u7 : Y.cell? ⟨w.heap.size, 7, none⟩ = some (.int .i64 0) := (blk_cell m0 7).trans rfl
  have u8 : Y.cell? ⟨w.heap.size, 8, none⟩ = some (.int .u8 0) := (blk_cell m0 8).trans rfl
  have u9 : Y.cell? ⟨w.heap.size, 9, none⟩ = some (.int .u16 0) := (blk_cell m0 9).trans rfl
  have v0 : Y.cell? ⟨w.heap.size + 1, 0, none⟩ = some (.int .i64 5) := (blk_cell m1 0).trans rfl
  simp [Leaves, settle, results, Try.results28, go_sem, u0, u1, u2, u3, u4, u5, u6, u7, u8, u9, v0, m2]
set_option maxRecDepth 100000 in
set_option maxHeartbeats 4000000 in
theorem hparse_sum (A : Option Addr) (c : Nat) (l : List Int) (hl : 336 ≤ l.length) (w : World) (hr : Kd.C (Kd.int .u8) w A l.length l) (hc : l.length ≤ c) (hk : 0 ≤ rd l 327 ∧ rd l 327 ≤ 255) (hok : (wareT (rd l 327)).2.2.2.2 = true) (h80 : 0 ≤ rd l 328) (h8 : decide (rd l 328 ≤ 8) = true) (h5 : decide (rd l 329 ≤ 5) = true) (hm : decide ((l.length : Int) ≤ shl .i64 32768 (rd l 328)) = true) (hs : (rd l 333 == sumTo l 25) = false) :
    Calls Try.prog 28 #[.slice A l.length c] w fun e' w' => e' = .returned (.tuple #[.agg #[.string ⟨#[]⟩, .int .u8 0, .int .i64 0, .bool false, .bool false, .bool false, .int .i64 0, .int .i64 0, .int .u8 0, .int .u16 0], .int .i64 3]) ∧ Below w.heap.size w w' := by
  have hmf : ∀ (fn : Fn) (first cap : Array Value) (w : World), (Instr.makeFunc fn first cap).run Try.prog w = .ok (.func fn first cap) w := fun _ _ _ _ => rfl
  obtain ⟨ad, rfl, _⟩ := Kd.at_int hr 0 (by omega) (by omega)
  have HR := Aside0.mk hr
  have hli : (336 : Int) ≤ l.length := by omega
  have hci : (336 : Int) ≤ c := by omega
  clear hr
  go_enter_defers Try.func28, Try.ntmps28
  go_wp2_with fail
  have z0 := blk_alloc (blk_new w (.cells #[.string ⟨#[]⟩, .int .u8 0, .int .i64 0, .bool false, .bool false, .bool false, .int .i64 0, .int .i64 0, .int .u8 0, .int .u16 0] 30)) (.cells #[.int .i64 0] 26)
  have z1 := heap_alloc_new (w.alloc (.cells #[.string ⟨#[]⟩, .int .u8 0, .int .i64 0, .bool false, .bool false, .bool false, .int .i64 0, .int .i64 0, .int .u8 0, .int .u16 0] 30)) (.cells #[.int .i64 0] 26)
  rw [show (w.alloc (.cells #[.string ⟨#[]⟩, .int .u8 0, .int .i64 0, .bool false, .bool false, .bool false, .int .i64 0, .int .i64 0, .int .u8 0, .int .u16 0] 30)).heap.size = w.heap.size + 1 by simp] at z1
  have z2 := below_alloc (below_alloc (Below.refl w.heap.size w) (.cells #[.string ⟨#[]⟩, .int .u8 0, .int .i64 0, .bool false, .bool false, .bool false, .int .i64 0, .int .i64 0, .int .u8 0, .int .u16 0] 30)) (.cells #[.int .i64 0] 26)
  generalize (w.alloc (.cells #[.string ⟨#[]⟩, .int .u8 0, .int .i64 0, .bool false, .bool false, .bool false, .int .i64 0, .int .i64 0, .int .u8 0, .int .u16 0] 30)).alloc (.cells #[.int .i64 0] 26) = W0 at z0 z1 z2 ⊢
  refine (need_ok 2 _).mono ?_
  rintro e' w' ⟨rfl, hw⟩
  replace hw := hw.symm
  subst hw
  obtain ⟨ad', ea, c327⟩ := Kd.at_int (Kd.C_below HR.out z2) 327 (by omega) (by omega)
  obtain rfl := Option.some.inj ea
  clear ea
  replace c327 : W0.cell? ⟨ad.block, ad.off + 327, none⟩ = some (.int .u8 (rd l 327)) := c327
  go_wp2_with fail
  refine (header_ware.calls (rd l 327) hk _).mono ?_
  rintro e' w1 ⟨rfl, hb⟩
  have B0 := Aside0.mk (blk_below z0 hb)
  have B1 := Aside0.mk (blk_below z1 hb)
  have B2 := Aside0.mk (Below.trans z2 (hb.mono z2.size))
  clear z0 z1 z2 hb c327
  rw [hok]
  go_wp2_with fail
  refine (need_ok 4 _).mono ?_
  rintro e' w' ⟨rfl, rfl⟩
  have hg : w.heap.size + 1 < w1.heap.size := blk_lt B1.out
  have C0 := Aside0.mk (blk_alloc B0.out (.cells #[.string ⟨#[]⟩, .int .u8 (rd l 327), .int .i64 (wareT (rd l 327)).1, .bool (wareT (rd l 327)).2.1, .bool (wareT (rd l 327)).2.2.1, .bool (wareT (rd l 327)).2.2.2.1, .int .i64 0, .int .i64 0, .int .u8 0, .int .u16 0] 30))
  have C1 := Aside0.mk (blk_alloc B1.out (.cells #[.string ⟨#[]⟩, .int .u8 (rd l 327), .int .i64 (wareT (rd l 327)).1, .bool (wareT (rd l 327)).2.1, .bool (wareT (rd l 327)).2.2.1, .bool (wareT (rd l 327)).2.2.2.1, .int .i64 0, .int .i64 0, .int .u8 0, .int .u16 0] 30))
  have C2 := Aside0.mk (below_alloc B2.out (.cells #[.string ⟨#[]⟩, .int .u8 (rd l 327), .int .i64 (wareT (rd l 327)).1, .bool (wareT (rd l 327)).2.1, .bool (wareT (rd l 327)).2.2.1, .bool (wareT (rd l 327)).2.2.2.1, .int .i64 0, .int .i64 0, .int .u8 0, .int .u16 0] 30))
  have C3 := Aside0.mk (heap_alloc_new w1 (.cells #[.string ⟨#[]⟩, .int .u8 (rd l 327), .int .i64 (wareT (rd l 327)).1, .bool (wareT (rd l 327)).2.1, .bool (wareT (rd l 327)).2.2.1, .bool (wareT (rd l 327)).2.2.2.1, .int .i64 0, .int .i64 0, .int .u8 0, .int .u16 0] 30))
  generalize w1.alloc (.cells #[.string ⟨#[]⟩, .int .u8 (rd l 327), .int .i64 (wareT (rd l 327)).1, .bool (wareT (rd l 327)).2.1, .bool (wareT (rd l 327)).2.2.1, .bool (wareT (rd l 327)).2.2.2.1, .int .i64 0, .int .i64 0, .int .u8 0, .int .u16 0] 30) = W1 at C0 C1 C2 C3 ⊢
  generalize w1.heap.size = gx at hg C3 ⊢
  clear B0 B1 B2
  dsimp only
  obtain ⟨ad', ea, c328⟩ := Kd.at_int (Kd.C_below HR.out C2.out) 328 (by omega) (by omega)
  obtain rfl := Option.some.inj ea
  clear ea
  replace c328 : W1.cell? ⟨ad.block, ad.off + 328, none⟩ = some (.int .u8 (rd l 328)) := c328
  obtain ⟨ad', ea, c329⟩ := Kd.at_int (Kd.C_below HR.out C2.out) 329 (by omega) (by omega)
  obtain rfl := Option.some.inj ea
  clear ea
  replace c329 : W1.cell? ⟨ad.block, ad.off + 329, none⟩ = some (.int .u8 (rd l 329)) := c329
  go_wp2_with fail
  go_quiet (fail)
  go_wp2_with fail
  (with_reducible refine (header_most.calls (rd l 328) _ _ (by unfold header_most.f; rw [if_pos h80])).mono ?_)
  rintro e' w' ⟨rfl, ⟨nd, rfl⟩⟩
  go_wp2_with fail
  refine (need_ok 5 _).mono ?_
  rintro e' w' ⟨rfl, rfl⟩
  clear c328 c329
  have D0 := Aside0.mk (blk_drewN C0.out (nq + nd))
  have D1 := Aside0.mk (blk_drewN C1.out (nq + nd))
  have D2 := Aside0.mk (pw_below_drewN C2.out (nq + nd))
  have D3 := Aside0.mk (blk_drewN C3.out (nq + nd))
  generalize W1.drewN (nq + nd) = W2 at D0 D1 D2 D3 ⊢
  dsimp only
  clear C0 C1 C2 C3
  obtain ⟨ad', ea, c333⟩ := Kd.at_int (Kd.C_below HR.out D2.out) 333 (by omega) (by omega)
  obtain rfl := Option.some.inj ea
  clear ea
  replace c333 : W2.cell? ⟨ad.block, ad.off + 333, none⟩ = some (.int .u8 (rd l 333)) := c333
  have hsum : header_sum.f l = some (sumTo l 25) := by unfold header_sum.f; rw [if_pos (by omega)]
  go_wp2_with fail
  have p333 : (333 : Int) < l.length := by omega
  have c333d : W2.drew.cell? ⟨ad.block, ad.off + 333, none⟩ = some (.int .u8 (rd l 333)) := c333
  go_still_tail 6, (by kernel_rfl)
  still_call (header_sum.calls _ c l (sumTo l 25) _ (Kd.C_below HR.out (below_drew1 D2.out)) hc hsum)
  repeat still_step
  refine wpStill_nil ?_
  change wpList _ _ _ _ _ W2.drew
  have F0 := blk_drew D0.out
  have F1 := blk_drew D1.out
  have F2 := below_drew1 D2.out
  have F3 := blk_drew D3.out
  generalize W2.drew = W3 at F0 F1 F2 F3 ⊢
  clear c333 c333d p333 hsum D0 D1 D2 D3
  go_wp2_with fail
  refine (need_no 3 _).mono ?_
  rintro e' w' ⟨rfl, hw⟩
  replace hw := hw.symm
  subst hw
  refine leaves_cons (f := 53) (args := #[.pointer (some ⟨w.heap.size + 1, 0, none⟩)]) (by simp) (by simp [go_sem]) ?_
  refine (parse_panicking ⟨w.heap.size + 1, 0, none⟩ 0 3 [] _ ((blk_cell (F1) 0).trans rfl) (blk_frozen (F1) 0)).mono ?_
  rintro e u' w'' ⟨rfl, rfl, rfl⟩
  have m0 : ((W3).setCell ⟨w.heap.size + 1, 0, none⟩ (.int .i64 3)).heap[w.heap.size]? = some (.cells #[.string ⟨#[]⟩, .int .u8 0, .int .i64 0, .bool false, .bool false, .bool false, .int .i64 0, .int .i64 0, .int .u8 0, .int .u16 0] 30 (0, 0)) := blk_far (F0) (by simp) _
  have m1 : ((W3).setCell ⟨w.heap.size + 1, 0, none⟩ (.int .i64 3)).heap[w.heap.size + 1]? = some (.cells #[.int .i64 3] 26 (0, 0)) := blk_put (F1) 0 _ rfl
  have m2 : Below w.heap.size w ((W3).setCell ⟨w.heap.size + 1, 0, none⟩ (.int .i64 3)) := below_set (F2) (Nat.le_succ _)
  generalize ((W3).setCell ⟨w.heap.size + 1, 0, none⟩ (.int .i64 3)) = Y at m0 m1 m2 ⊢
  have u0 : Y.cell? ⟨w.heap.size, 0, none⟩ = some (.string ⟨#[]⟩) := (blk_cell m0 0).trans rfl
  have u1 : Y.cell? ⟨w.heap.size, 1, none⟩ = some (.int .u8 0) := (blk_cell m0 1).trans rfl
  have u2 : Y.cell? ⟨w.heap.size, 2, none⟩ = some (.int .i64 0) := (blk_cell m0 2).trans rfl
  have u3 : Y.cell? ⟨w.heap.size, 3, none⟩ = some (.bool false) := (blk_cell m0 3).trans rfl
  have u4 : Y.cell? ⟨w.heap.size, 4, none⟩ = some (.bool false) := (blk_cell m0 4).trans rfl
  have u5 : Y.cell? ⟨w.heap.size, 5, none⟩ = some (.bool false) := (blk_cell m0 5).trans rfl
  have u6 : Y.cell? ⟨w.heap.size, 6, none⟩ = some (.int .i64 0) := (blk_cell m0 6).trans rfl
  have u7 : Y.cell? ⟨w.heap.size, 7, none⟩ = some (.int .i64 0) := (blk_cell m0 7).trans rfl
  have u8 : Y.cell? ⟨w.heap.size, 8, none⟩ = some (.int .u8 0) := (blk_cell m0 8).trans rfl
  have u9 : Y.cell? ⟨w.heap.size, 9, none⟩ = some (.int .u16 0) := (blk_cell m0 9).trans rfl
  have v0 : Y.cell? ⟨w.heap.size + 1, 0, none⟩ = some (.int .i64 3) := (blk_cell m1 0).trans rfl
  simp [Leaves, settle, results, Try.results28, go_sem, u0, u1, u2, u3, u4, u5, u6, u7, u8, u9, v0, m2]
end Go.Proofs.Ytmjjojbedllmgaa.Hand
end
section
namespace Go.Proofs.Ytmjjojbedllmgaa.Hand
open Go.RowKit
open Go.Proofs.Ytmjjojbedllmgaa.G
open Go.Proofs.YtmjjojbedllmgaaW.PrintWords Go.Proofs.YtmjjojbedllmgaaW.PrintLast Go.Proofs.YtmjjojbedllmgaaW.PrintMore
set_option linter.unusedVariables false
set_option linter.unusedSimpArgs false
def prb (b : Int) : Bool := decide (b ≥ 32) && decide (b ≤ 126)
def titleTo (l : List Int) : Nat → Nat → Nat
  | 0, j => j
  | f + 1, j => if prb (rd l (308 + (j : Int))) = true then titleTo l f (j + 1) else j
def titleN (l : List Int) : Nat := titleTo l 16 0
theorem titleTo_le (l : List Int) : ∀ f j, j ≤ titleTo l f j ∧ titleTo l f j ≤ j + f
  | 0, j => ⟨Nat.le_refl _, Nat.le_refl _⟩
  | f + 1, j => by
    unfold titleTo
    have ih := titleTo_le l f (j + 1)
    split <;> omega
theorem prb_calls (b : Int) : header_printable.f b = some (prb b) := by
  unfold header_printable.f prb
  by_cases h : b ≥ 32
  · rw [if_pos h, decide_eq_true h]; rfl
  · rw [if_neg h, decide_eq_false h]; rfl
def sizeT (m : Int) : Int := if m = 1 then 2048 else if m = 2 then 8192 else if m = 3 then 32768 else if m = 4 then 131072 else if m = 5 then 65536 else 0
def ramT (r : Bool) (m : Int) : Int := if r = true then sizeT m else 0
set_option maxRecDepth 100000 in
theorem idx_ok (m : Int) (h : 0 ≤ m ∧ m ≤ 5) (W : World) : (Instr.index 103 (.agg #[.int .i64 0, .int .i64 2048, .int .i64 8192, .int .i64 32768, .int .i64 131072, .int .i64 65536]) (.int .u8 m)).run Try.prog W = .ok (.int .i64 (sizeT m)) W := by
  have h6 : m = 0 ∨ m = 1 ∨ m = 2 ∨ m = 3 ∨ m = 4 ∨ m = 5 := by omega
  rcases h6 with rfl | rfl | rfl | rfl | rfl | rfl <;> (first | rfl | kernel_rfl)
set_option maxRecDepth 100000 in
set_option maxHeartbeats 4000000 in
theorem hparse_ok (A : Option Addr) (c : Nat) (l : List Int) (hl : 336 ≤ l.length) (w : World) (hr : Kd.C (Kd.int .u8) w A l.length l) (hc : l.length ≤ c) (hk : 0 ≤ rd l 327 ∧ rd l 327 ≤ 255) (hok : (wareT (rd l 327)).2.2.2.2 = true) (h80 : 0 ≤ rd l 328) (h8 : decide (rd l 328 ≤ 8) = true) (h5 : decide (rd l 329 ≤ 5) = true) (hm : decide ((l.length : Int) ≤ shl .i64 32768 (rd l 328)) = true) (h50 : 0 ≤ rd l 329) (hs : (rd l 333 == sumTo l 25) = true) :
    Calls Try.prog 28 #[.slice A l.length c] w fun e' w' => e' = .returned (.tuple #[.agg #[.string (strOfNums ((l.take (308 + titleN l)).drop 308)), .int .u8 (rd l 327), .int .i64 (wareT (rd l 327)).1, .bool (wareT (rd l 327)).2.1, .bool (wareT (rd l 327)).2.2.1, .bool (wareT (rd l 327)).2.2.2.1, .int .i64 (wrap64 (2 * 2 ^ min (rd l 328).toNat 64)), .int .i64 (ramT (wareT (rd l 327)).2.1 (rd l 329)), .int .u8 (rd l 333), .int .u16 (Go.bits .or .u16 (IntKind.u16.wrap (IntKind.u16.wrap (rd l 334) * 256)) (IntKind.u16.wrap (rd l 335)))], .int .i64 0]) ∧ Below w.heap.size w w' := by
  have hmf : ∀ (fn : Fn) (first cap : Array Value) (w : World), (Instr.makeFunc fn first cap).run Try.prog w = .ok (.func fn first cap) w := fun _ _ _ _ => rfl
  obtain ⟨ad, rfl, _⟩ := Kd.at_int hr 0 (by omega) (by omega)
  have HR := Aside0.mk hr
  have hli : (336 : Int) ≤ l.length := by omega
  have hci : (336 : Int) ≤ c := by omega
  clear hr
  go_enter_defers Try.func28, Try.ntmps28
  go_wp2_with fail
  have z0 := blk_alloc (blk_new w (.cells #[.string ⟨#[]⟩, .int .u8 0, .int .i64 0, .bool false, .bool false, .bool false, .int .i64 0, .int .i64 0, .int .u8 0, .int .u16 0] 30)) (.cells #[.int .i64 0] 26)
  have z1 := heap_alloc_new (w.alloc (.cells #[.string ⟨#[]⟩, .int .u8 0, .int .i64 0, .bool false, .bool false, .bool false, .int .i64 0, .int .i64 0, .int .u8 0, .int .u16 0] 30)) (.cells #[.int .i64 0] 26)
  rw [show (w.alloc (.cells #[.string ⟨#[]⟩, .int .u8 0, .int .i64 0, .bool false, .bool false, .bool false, .int .i64 0, .int .i64 0, .int .u8 0, .int .u16 0] 30)).heap.size = w.heap.size + 1 by simp] at z1
  have z2 := below_alloc (below_alloc (Below.refl w.heap.size w) (.cells #[.string ⟨#[]⟩, .int .u8 0, .int .i64 0, .bool false, .bool false, .bool false, .int .i64 0, .int .i64 0, .int .u8 0, .int .u16 0] 30)) (.cells #[.int .i64 0] 26)
  generalize (w.alloc (.cells #[.string ⟨#[]⟩, .int .u8 0, .int .i64 0, .bool false, .bool false, .bool false, .int .i64 0, .int .i64 0, .int .u8 0, .int .u16 0] 30)).alloc (.cells #[.int .i64 0] 26) = W0 at z0 z1 z2 ⊢
  refine (need_ok 2 _).mono ?_
  rintro e' w' ⟨rfl, hw⟩
  replace hw := hw.symm
  subst hw
  obtain ⟨ad', ea, c327⟩ := Kd.at_int (Kd.C_below HR.out z2) 327 (by omega) (by omega)
  obtain rfl := Option.some.inj ea
  clear ea
  replace c327 : W0.cell? ⟨ad.block, ad.off + 327, none⟩ = some (.int .u8 (rd l 327)) := c327
  go_wp2_with fail
  refine (header_ware.calls (rd l 327) hk _).mono ?_
  rintro e' w1 ⟨rfl, hb⟩
  have B0 := Aside0.mk (blk_below z0 hb)
  have B1 := Aside0.mk (blk_below z1 hb)
  have B2 := Aside0.mk (Below.trans z2 (hb.mono z2.size))
  clear z0 z1 z2 hb c327
  rw [hok]
  go_wp2_with fail
  refine (need_ok 4 _).mono ?_
  rintro e' w' ⟨rfl, rfl⟩
  have hg : w.heap.size + 1 < w1.heap.size := blk_lt B1.out
  have C0 := Aside0.mk (blk_alloc B0.out (.cells #[.string ⟨#[]⟩, .int .u8 (rd l 327), .int .i64 (wareT (rd l 327)).1, .bool (wareT (rd l 327)).2.1, .bool (wareT (rd l 327)).2.2.1, .bool (wareT (rd l 327)).2.2.2.1, .int .i64 0, .int .i64 0, .int .u8 0, .int .u16 0] 30))
  have C1 := Aside0.mk (blk_alloc B1.out (.cells #[.string ⟨#[]⟩, .int .u8 (rd l 327), .int .i64 (wareT (rd l 327)).1, .bool (wareT (rd l 327)).2.1, .bool (wareT (rd l 327)).2.2.1, .bool (wareT (rd l 327)).2.2.2.1, .int .i64 0, .int .i64 0, .int .u8 0, .int .u16 0] 30))
  have C2 := Aside0.mk (below_alloc B2.out (.cells #[.string ⟨#[]⟩, .int .u8 (rd l 327), .int .i64 (wareT (rd l 327)).1, .bool (wareT (rd l 327)).2.1, .bool (wareT (rd l 327)).2.2.1, .bool (wareT (rd l 327)).2.2.2.1, .int .i64 0, .int .i64 0, .int .u8 0, .int .u16 0] 30))
  have C3 := Aside0.mk (heap_alloc_new w1 (.cells #[.string ⟨#[]⟩, .int .u8 (rd l 327), .int .i64 (wareT (rd l 327)).1, .bool (wareT (rd l 327)).2.1, .bool (wareT (rd l 327)).2.2.1, .bool (wareT (rd l 327)).2.2.2.1, .int .i64 0, .int .i64 0, .int .u8 0, .int .u16 0] 30))
  generalize w1.alloc (.cells #[.string ⟨#[]⟩, .int .u8 (rd l 327), .int .i64 (wareT (rd l 327)).1, .bool (wareT (rd l 327)).2.1, .bool (wareT (rd l 327)).2.2.1, .bool (wareT (rd l 327)).2.2.2.1, .int .i64 0, .int .i64 0, .int .u8 0, .int .u16 0] 30) = W1 at C0 C1 C2 C3 ⊢
  generalize w1.heap.size = gx at hg C3 ⊢
  clear B0 B1 B2
  dsimp only
  obtain ⟨ad', ea, c328⟩ := Kd.at_int (Kd.C_below HR.out C2.out) 328 (by omega) (by omega)
  obtain rfl := Option.some.inj ea
  clear ea
  replace c328 : W1.cell? ⟨ad.block, ad.off + 328, none⟩ = some (.int .u8 (rd l 328)) := c328
  obtain ⟨ad', ea, c329⟩ := Kd.at_int (Kd.C_below HR.out C2.out) 329 (by omega) (by omega)
  obtain rfl := Option.some.inj ea
  clear ea
  replace c329 : W1.cell? ⟨ad.block, ad.off + 329, none⟩ = some (.int .u8 (rd l 329)) := c329
  go_wp2_with fail
  go_quiet (fail)
  go_wp2_with fail
  (with_reducible refine (header_most.calls (rd l 328) _ _ (by unfold header_most.f; rw [if_pos h80])).mono ?_)
  rintro e' w' ⟨rfl, ⟨nd, rfl⟩⟩
  go_wp2_with fail
  refine (need_ok 5 _).mono ?_
  rintro e' w' ⟨rfl, rfl⟩
  clear c328 c329
  have D0 := Aside0.mk (blk_drewN C0.out (nq + nd))
  have D1 := Aside0.mk (blk_drewN C1.out (nq + nd))
  have D2 := Aside0.mk (pw_below_drewN C2.out (nq + nd))
  have D3 := Aside0.mk (blk_drewN C3.out (nq + nd))
  generalize W1.drewN (nq + nd) = W2 at D0 D1 D2 D3 ⊢
  dsimp only
  clear C0 C1 C2 C3
  obtain ⟨ad', ea, c333⟩ := Kd.at_int (Kd.C_below HR.out D2.out) 333 (by omega) (by omega)
  obtain rfl := Option.some.inj ea
  clear ea
  replace c333 : W2.cell? ⟨ad.block, ad.off + 333, none⟩ = some (.int .u8 (rd l 333)) := c333
  have hsum : header_sum.f l = some (sumTo l 25) := by unfold header_sum.f; rw [if_pos (by omega)]
  go_wp2_with fail
  have p333 : (333 : Int) < l.length := by omega
  have c333d : W2.drew.cell? ⟨ad.block, ad.off + 333, none⟩ = some (.int .u8 (rd l 333)) := c333
  go_still_tail 6, (by kernel_rfl)
  still_call (header_sum.calls _ c l (sumTo l 25) _ (Kd.C_below HR.out (below_drew1 D2.out)) hc hsum)
  repeat still_step
  refine wpStill_nil ?_
  change wpList _ _ _ _ _ W2.drew
  have F0 := blk_drew D0.out
  have F1 := blk_drew D1.out
  have F2 := below_drew1 D2.out
  have F3 := blk_drew D3.out
  generalize W2.drew = W3 at F0 F1 F2 F3 ⊢
  clear c333 c333d p333 hsum D0 D1 D2 D3
  go_wp2_with fail
  refine (need_ok 3 _).mono ?_
  rintro e' w' ⟨rfl, hw⟩
  replace hw := hw.symm
  subst hw
  go_wp2_with fail
  have hN := titleTo_le l 16 0
  go_loopw [8] (fun n w' => ∃ (j : Nat), n = .int .i64 j ∧ Aside0 (j ≤ 16 ∧ titleTo l (16 - j) j = titleN l ∧ w'.heap[w.heap.size]? = some (.cells #[.string ⟨#[]⟩, .int .u8 0, .int .i64 0, .bool false, .bool false, .bool false, .int .i64 0, .int .i64 0, .int .u8 0, .int .u16 0] 30 (0, 0)) ∧ w'.heap[w.heap.size + 1]? = some (.cells #[.int .i64 0] 26 (0, 0)) ∧ w'.heap[gx]? = some (.cells #[.string ⟨#[]⟩, .int .u8 (rd l 327), .int .i64 (wareT (rd l 327)).1, .bool (wareT (rd l 327)).2.1, .bool (wareT (rd l 327)).2.2.1, .bool (wareT (rd l 327)).2.2.2.1, .int .i64 0, .int .i64 0, .int .u8 0, .int .u16 0] 30 (0, 0)) ∧ Below w.heap.size w w')) (fun n _ => 20 - (intOf n).toNat)
  case atStart => exact ⟨0, rfl, Aside0.mk ⟨by omega, rfl, F0, F1, F3, F2⟩⟩
  case round =>
    obtain ⟨j, rfl, HA⟩ := hrel
    obtain ⟨hj, ht, f0, f1, f3, f2⟩ := HA.out
    clear HA F0 F1 F2 F3
    have F0 := Aside0.mk f0
    have F1 := Aside0.mk f1
    have F2 := Aside0.mk f2
    have F3 := Aside0.mk f3
    clear f0 f1 f2 f3
    by_cases hj16 : j = 16
    · have hn : titleN l = j := by rw [← ht, hj16]; rfl
      have hnl : ¬ (j : Int) < 16 := by omega
      clear ht hj16
      generalize wr = W at F0 F1 F2 F3 ⊢
      subst hn
      have hcj : (308 + (titleN l : Int)) ≤ c := by omega
      have KD : Kd.C (Kd.int .u8) W (some ⟨ad.block, ad.off + 308, none⟩) (titleN l) ((l.take (308 + titleN l)).drop 308) := by
        have q := Kd.C_drop (m := 308) (Kd.C_take (m := 308 + titleN l) (Kd.C_below HR.out F2.out) (by omega)) (by simp; omega) (show (l.take (308 + titleN l)).length ≤ c by simp; omega)
        have e : ((l.take (308 + titleN l)).drop 308).length = titleN l := by simp; omega
        rw [e, if_neg (by omega)] at q
        exact q
      have hcv : (convert 22 9 (.slice (some ⟨ad.block, ad.off + 308, none⟩) (titleN l) (c - 308))).run Try.prog W = .ok (.string (strOfNums ((l.take (308 + titleN l)).drop 308))) W := Kd.C_string Try.underlying22 Try.underlying5 Try.underlying9 KD
      have a0 : W.cell? ⟨gx, 0, none⟩ = some (.string ⟨#[]⟩) := (blk_cell F3.out 0).trans rfl
      have a1 : W.cell? ⟨gx, 1, none⟩ = some (.int .u8 (rd l 327)) := (blk_cell F3.out 1).trans rfl
      have a2 : W.cell? ⟨gx, 2, none⟩ = some (.int .i64 (wareT (rd l 327)).1) := (blk_cell F3.out 2).trans rfl
      have a3 : W.cell? ⟨gx, 3, none⟩ = some (.bool (wareT (rd l 327)).2.1) := (blk_cell F3.out 3).trans rfl
      have a4 : W.cell? ⟨gx, 4, none⟩ = some (.bool (wareT (rd l 327)).2.2.1) := (blk_cell F3.out 4).trans rfl
      have a5 : W.cell? ⟨gx, 5, none⟩ = some (.bool (wareT (rd l 327)).2.2.2.1) := (blk_cell F3.out 5).trans rfl
      have a6 : W.cell? ⟨gx, 6, none⟩ = some (.int .i64 0) := (blk_cell F3.out 6).trans rfl
      have a7 : W.cell? ⟨gx, 7, none⟩ = some (.int .i64 0) := (blk_cell F3.out 7).trans rfl
      have a8 : W.cell? ⟨gx, 8, none⟩ = some (.int .u8 0) := (blk_cell F3.out 8).trans rfl
      have a9 : W.cell? ⟨gx, 9, none⟩ = some (.int .u16 0) := (blk_cell F3.out 9).trans rfl
      have fz := fun i => blk_frozen F3.out i
      obtain ⟨ad', ea, c333⟩ := Kd.at_int (Kd.C_below HR.out F2.out) 333 (by omega) (by omega)
      obtain rfl := Option.some.inj ea
      clear ea
      replace c333 : W.cell? ⟨ad.block, ad.off + 333, none⟩ = some (.int .u8 (rd l 333)) := c333
      have hix := fun W => idx_ok (rd l 329) ⟨h50, of_decide_eq_true h5⟩ W
      cases hram : (wareT (rd l 327)).2.1 with
      | true =>
        rw [hram] at a3
        go_wp2_with fail
        have p : W.heap[gx]? = some (.cells #[.string ⟨#[]⟩, .int .u8 (rd l 327), .int .i64 (wareT (rd l 327)).1, .bool true, .bool (wareT (rd l 327)).2.2.1, .bool (wareT (rd l 327)).2.2.2.1, .int .i64 0, .int .i64 0, .int .u8 0, .int .u16 0] 30 (0, 0)) := by have q := F3.out; rw [hram] at q; exact q
        have p := blk_put (cs' := #[.string (strOfNums ((l.take (308 + titleN l)).drop 308)), .int .u8 (rd l 327), .int .i64 (wareT (rd l 327)).1, .bool true, .bool (wareT (rd l 327)).2.2.1, .bool (wareT (rd l 327)).2.2.2.1, .int .i64 0, .int .i64 0, .int .u8 0, .int .u16 0]) p 0 (.string (strOfNums ((l.take (308 + titleN l)).drop 308))) rfl
        have p := blk_put (cs' := #[.string (strOfNums ((l.take (308 + titleN l)).drop 308)), .int .u8 (rd l 327), .int .i64 (wareT (rd l 327)).1, .bool true, .bool (wareT (rd l 327)).2.2.1, .bool (wareT (rd l 327)).2.2.2.1, .int .i64 (wrap64 (2 * 2 ^ min (rd l 328).toNat 64)), .int .i64 0, .int .u8 0, .int .u16 0]) p 6 (.int .i64 (wrap64 (2 * 2 ^ min (rd l 328).toNat 64))) rfl
        have p := blk_put (cs' := #[.string (strOfNums ((l.take (308 + titleN l)).drop 308)), .int .u8 (rd l 327), .int .i64 (wareT (rd l 327)).1, .bool true, .bool (wareT (rd l 327)).2.2.1, .bool (wareT (rd l 327)).2.2.2.1, .int .i64 (wrap64 (2 * 2 ^ min (rd l 328).toNat 64)), .int .i64 (sizeT (rd l 329)), .int .u8 0, .int .u16 0]) p 7 (.int .i64 (sizeT (rd l 329))) rfl
        have p := blk_put (cs' := #[.string (strOfNums ((l.take (308 + titleN l)).drop 308)), .int .u8 (rd l 327), .int .i64 (wareT (rd l 327)).1, .bool true, .bool (wareT (rd l 327)).2.2.1, .bool (wareT (rd l 327)).2.2.2.1, .int .i64 (wrap64 (2 * 2 ^ min (rd l 328).toNat 64)), .int .i64 (sizeT (rd l 329)), .int .u8 (rd l 333), .int .u16 0]) p 8 (.int .u8 (rd l 333)) rfl
        have q0 : ((((W.setCell ⟨gx, 0, none⟩ (.string (strOfNums ((l.take (308 + titleN l)).drop 308)))).setCell ⟨gx, 6, none⟩ (.int .i64 (wrap64 (2 * 2 ^ min (rd l 328).toNat 64)))).setCell ⟨gx, 7, none⟩ (.int .i64 (sizeT (rd l 329)))).setCell ⟨gx, 8, none⟩ (.int .u8 (rd l 333))).heap[w.heap.size]? = some (.cells #[.string ⟨#[]⟩, .int .u8 0, .int .i64 0, .bool false, .bool false, .bool false, .int .i64 0, .int .i64 0, .int .u8 0, .int .u16 0] 30 (0, 0)) := (blk_far (blk_far (blk_far (blk_far F0.out (by simp; omega) _) (by simp; omega) _) (by simp; omega) _) (by simp; omega) _)
        have q1 : ((((W.setCell ⟨gx, 0, none⟩ (.string (strOfNums ((l.take (308 + titleN l)).drop 308)))).setCell ⟨gx, 6, none⟩ (.int .i64 (wrap64 (2 * 2 ^ min (rd l 328).toNat 64)))).setCell ⟨gx, 7, none⟩ (.int .i64 (sizeT (rd l 329)))).setCell ⟨gx, 8, none⟩ (.int .u8 (rd l 333))).heap[w.heap.size + 1]? = some (.cells #[.int .i64 0] 26 (0, 0)) := (blk_far (blk_far (blk_far (blk_far F1.out (by simp; omega) _) (by simp; omega) _) (by simp; omega) _) (by simp; omega) _)
        have q2 : Below w.heap.size w ((((W.setCell ⟨gx, 0, none⟩ (.string (strOfNums ((l.take (308 + titleN l)).drop 308)))).setCell ⟨gx, 6, none⟩ (.int .i64 (wrap64 (2 * 2 ^ min (rd l 328).toNat 64)))).setCell ⟨gx, 7, none⟩ (.int .i64 (sizeT (rd l 329)))).setCell ⟨gx, 8, none⟩ (.int .u8 (rd l 333))) := (below_set (below_set (below_set (below_set F2.out (by omega)) (by omega)) (by omega)) (by omega))
        clear a0 a1 a2 a3 a4 a5 a6 a7 a8 a9 c333 hcv KD fz
        generalize ((((W.setCell ⟨gx, 0, none⟩ (.string (strOfNums ((l.take (308 + titleN l)).drop 308)))).setCell ⟨gx, 6, none⟩ (.int .i64 (wrap64 (2 * 2 ^ min (rd l 328).toNat 64)))).setCell ⟨gx, 7, none⟩ (.int .i64 (sizeT (rd l 329)))).setCell ⟨gx, 8, none⟩ (.int .u8 (rd l 333))) = W4 at p q0 q1 q2 ⊢
        obtain ⟨ad', ea, c334⟩ := Kd.at_int (Kd.C_below HR.out q2) 334 (by omega) (by omega)
        obtain rfl := Option.some.inj ea
        clear ea
        replace c334 : W4.cell? ⟨ad.block, ad.off + 334, none⟩ = some (.int .u8 (rd l 334)) := c334
        have c334d : W4.drew.cell? ⟨ad.block, ad.off + 334, none⟩ = some (.int .u8 (rd l 334)) := (World.cell?_drew _ _).trans c334
        have p334 : (334 : Int) < l.length := Int.lt_of_lt_of_le (by decide) hli
        obtain ⟨ad', ea, c335⟩ := Kd.at_int (Kd.C_below HR.out q2) 335 (by omega) (by omega)
        obtain rfl := Option.some.inj ea
        clear ea
        replace c335 : W4.cell? ⟨ad.block, ad.off + 335, none⟩ = some (.int .u8 (rd l 335)) := c335
        have c335d : W4.drew.cell? ⟨ad.block, ad.off + 335, none⟩ = some (.int .u8 (rd l 335)) := (World.cell?_drew _ _).trans c335
        have p335 : (335 : Int) < l.length := Int.lt_of_lt_of_le (by decide) hli
        go_still_tail 11, (by kernel_rfl)
        change wpList _ _ _ _ _ W4.drew
        have p := blk_drew p
        have q0 := blk_drew q0
        have q1 := blk_drew q1
        have q2 := below_drew1 q2
        generalize W4.drew = W5 at p q0 q1 q2 ⊢
        clear c334 c335 c334d c335d p334 p335
        have x0 : W5.cell? ⟨gx, 0, none⟩ = some (.string (strOfNums ((l.take (308 + titleN l)).drop 308))) := (blk_cell p 0).trans rfl
        have x1 : W5.cell? ⟨gx, 1, none⟩ = some (.int .u8 (rd l 327)) := (blk_cell p 1).trans rfl
        have x2 : W5.cell? ⟨gx, 2, none⟩ = some (.int .i64 (wareT (rd l 327)).1) := (blk_cell p 2).trans rfl
        have x3 : W5.cell? ⟨gx, 3, none⟩ = some (.bool true) := (blk_cell p 3).trans rfl
        have x4 : W5.cell? ⟨gx, 4, none⟩ = some (.bool (wareT (rd l 327)).2.2.1) := (blk_cell p 4).trans rfl
        have x5 : W5.cell? ⟨gx, 5, none⟩ = some (.bool (wareT (rd l 327)).2.2.2.1) := (blk_cell p 5).trans rfl
        have x6 : W5.cell? ⟨gx, 6, none⟩ = some (.int .i64 (wrap64 (2 * 2 ^ min (rd l 328).toNat 64))) := (blk_cell p 6).trans rfl
        have x7 : W5.cell? ⟨gx, 7, none⟩ = some (.int .i64 (sizeT (rd l 329))) := (blk_cell p 7).trans rfl
        have x8 : W5.cell? ⟨gx, 8, none⟩ = some (.int .u8 (rd l 333)) := (blk_cell p 8).trans rfl
        have x9 : W5.cell? ⟨gx, 9, none⟩ = some (.int .u16 0) := (blk_cell p 9).trans rfl
        have y0 : W5.cell? ⟨w.heap.size, 0, none⟩ = some (.string ⟨#[]⟩) := (blk_cell q0 0).trans rfl
        have y1 : W5.cell? ⟨w.heap.size, 1, none⟩ = some (.int .u8 0) := (blk_cell q0 1).trans rfl
        have y2 : W5.cell? ⟨w.heap.size, 2, none⟩ = some (.int .i64 0) := (blk_cell q0 2).trans rfl
        have y3 : W5.cell? ⟨w.heap.size, 3, none⟩ = some (.bool false) := (blk_cell q0 3).trans rfl
        have y4 : W5.cell? ⟨w.heap.size, 4, none⟩ = some (.bool false) := (blk_cell q0 4).trans rfl
        have y5 : W5.cell? ⟨w.heap.size, 5, none⟩ = some (.bool false) := (blk_cell q0 5).trans rfl
        have y6 : W5.cell? ⟨w.heap.size, 6, none⟩ = some (.int .i64 0) := (blk_cell q0 6).trans rfl
        have y7 : W5.cell? ⟨w.heap.size, 7, none⟩ = some (.int .i64 0) := (blk_cell q0 7).trans rfl
        have y8 : W5.cell? ⟨w.heap.size, 8, none⟩ = some (.int .u8 0) := (blk_cell q0 8).trans rfl
        have y9 : W5.cell? ⟨w.heap.size, 9, none⟩ = some (.int .u16 0) := (blk_cell q0 9).trans rfl
        have e0 : W5.cell? ⟨w.heap.size + 1, 0, none⟩ = some (.int .i64 0) := (blk_cell q1 0).trans rfl
        have fx := fun i => blk_frozen p i
        have fh := fun i => blk_frozen q0 i
        have fe := fun i => blk_frozen q1 i
        have hne : ¬ w.heap.size = gx := by omega
        have hne1 : ¬ w.heap.size + 1 = gx := by omega
        have hne2 : ¬ gx = w.heap.size := by omega
        have hne3 : ¬ gx = w.heap.size + 1 := by omega
        go_wp2_with fail
        have m0 : (W5.setCell ⟨gx, 9, none⟩ (.int .u16 (Go.bits .or .u16 (IntKind.u16.wrap (IntKind.u16.wrap (rd l 334) * 256)) (IntKind.u16.wrap (rd l 335))))).heap[w.heap.size]? = some (.cells #[.string ⟨#[]⟩, .int .u8 0, .int .i64 0, .bool false, .bool false, .bool false, .int .i64 0, .int .i64 0, .int .u8 0, .int .u16 0] 30 (0, 0)) := blk_far q0 (by simp; omega) _
        have m0 := blk_put (cs' := #[.string (strOfNums ((l.take (308 + titleN l)).drop 308)), .int .u8 0, .int .i64 0, .bool false, .bool false, .bool false, .int .i64 0, .int .i64 0, .int .u8 0, .int .u16 0]) m0 0 (.string (strOfNums ((l.take (308 + titleN l)).drop 308))) rfl
        have m0 := blk_put (cs' := #[.string (strOfNums ((l.take (308 + titleN l)).drop 308)), .int .u8 (rd l 327), .int .i64 0, .bool false, .bool false, .bool false, .int .i64 0, .int .i64 0, .int .u8 0, .int .u16 0]) m0 1 (.int .u8 (rd l 327)) rfl
        have m0 := blk_put (cs' := #[.string (strOfNums ((l.take (308 + titleN l)).drop 308)), .int .u8 (rd l 327), .int .i64 (wareT (rd l 327)).1, .bool false, .bool false, .bool false, .int .i64 0, .int .i64 0, .int .u8 0, .int .u16 0]) m0 2 (.int .i64 (wareT (rd l 327)).1) rfl
        have m0 := blk_put (cs' := #[.string (strOfNums ((l.take (308 + titleN l)).drop 308)), .int .u8 (rd l 327), .int .i64 (wareT (rd l 327)).1, .bool true, .bool false, .bool false, .int .i64 0, .int .i64 0, .int .u8 0, .int .u16 0]) m0 3 (.bool true) rfl
        have m0 := blk_put (cs' := #[.string (strOfNums ((l.take (308 + titleN l)).drop 308)), .int .u8 (rd l 327), .int .i64 (wareT (rd l 327)).1, .bool true, .bool (wareT (rd l 327)).2.2.1, .bool false, .int .i64 0, .int .i64 0, .int .u8 0, .int .u16 0]) m0 4 (.bool (wareT (rd l 327)).2.2.1) rfl
        have m0 := blk_put (cs' := #[.string (strOfNums ((l.take (308 + titleN l)).drop 308)), .int .u8 (rd l 327), .int .i64 (wareT (rd l 327)).1, .bool true, .bool (wareT (rd l 327)).2.2.1, .bool (wareT (rd l 327)).2.2.2.1, .int .i64 0, .int .i64 0, .int .u8 0, .int .u16 0]) m0 5 (.bool (wareT (rd l 327)).2.2.2.1) rfl
        have m0 := blk_put (cs' := #[.string (strOfNums ((l.take (308 + titleN l)).drop 308)), .int .u8 (rd l 327), .int .i64 (wareT (rd l 327)).1, .bool true, .bool (wareT (rd l 327)).2.2.1, .bool (wareT (rd l 327)).2.2.2.1, .int .i64 (wrap64 (2 * 2 ^ min (rd l 328).toNat 64)), .int .i64 0, .int .u8 0, .int .u16 0]) m0 6 (.int .i64 (wrap64 (2 * 2 ^ min (rd l 328).toNat 64))) rfl
        have m0 := blk_put (cs' := #[.string (strOfNums ((l.take (308 + titleN l)).drop 308)), .int .u8 (rd l 327), .int .i64 (wareT (rd l 327)).1, .bool true, .bool (wareT (rd l 327)).2.2.1, .bool (wareT (rd l 327)).2.2.2.1, .int .i64 (wrap64 (2 * 2 ^ min (rd l 328).toNat 64)), .int .i64 (sizeT (rd l 329)), .int .u8 0, .int .u16 0]) m0 7 (.int .i64 (sizeT (rd l 329))) rfl
        have m0 := blk_put (cs' := #[.string (strOfNums ((l.take (308 + titleN l)).drop 308)), .int .u8 (rd l 327), .int .i64 (wareT (rd l 327)).1, .bool true, .bool (wareT (rd l 327)).2.2.1, .bool (wareT (rd l 327)).2.2.2.1, .int .i64 (wrap64 (2 * 2 ^ min (rd l 328).toNat 64)), .int .i64 (sizeT (rd l 329)), .int .u8 (rd l 333), .int .u16 0]) m0 8 (.int .u8 (rd l 333)) rfl
        have m0 := blk_put (cs' := #[.string (strOfNums ((l.take (308 + titleN l)).drop 308)), .int .u8 (rd l 327), .int .i64 (wareT (rd l 327)).1, .bool true, .bool (wareT (rd l 327)).2.2.1, .bool (wareT (rd l 327)).2.2.2.1, .int .i64 (wrap64 (2 * 2 ^ min (rd l 328).toNat 64)), .int .i64 (sizeT (rd l 329)), .int .u8 (rd l 333), .int .u16 (Go.bits .or .u16 (IntKind.u16.wrap (IntKind.u16.wrap (rd l 334) * 256)) (IntKind.u16.wrap (rd l 335)))]) m0 9 (.int .u16 (Go.bits .or .u16 (IntKind.u16.wrap (IntKind.u16.wrap (rd l 334) * 256)) (IntKind.u16.wrap (rd l 335)))) rfl
        have m0 : ((((((((((((W5.setCell ⟨gx, 9, none⟩ (.int .u16 (Go.bits .or .u16 (IntKind.u16.wrap (IntKind.u16.wrap (rd l 334) * 256)) (IntKind.u16.wrap (rd l 335))))).setCell ⟨w.heap.size, 0, none⟩ (.string (strOfNums ((l.take (308 + titleN l)).drop 308)))).setCell ⟨w.heap.size, 1, none⟩ (.int .u8 (rd l 327))).setCell ⟨w.heap.size, 2, none⟩ (.int .i64 (wareT (rd l 327)).1)).setCell ⟨w.heap.size, 3, none⟩ (.bool true)).setCell ⟨w.heap.size, 4, none⟩ (.bool (wareT (rd l 327)).2.2.1)).setCell ⟨w.heap.size, 5, none⟩ (.bool (wareT (rd l 327)).2.2.2.1)).setCell ⟨w.heap.size, 6, none⟩ (.int .i64 (wrap64 (2 * 2 ^ min (rd l 328).toNat 64)))).setCell ⟨w.heap.size, 7, none⟩ (.int .i64 (sizeT (rd l 329)))).setCell ⟨w.heap.size, 8, none⟩ (.int .u8 (rd l 333))).setCell ⟨w.heap.size, 9, none⟩ (.int .u16 (Go.bits .or .u16 (IntKind.u16.wrap (IntKind.u16.wrap (rd l 334) * 256)) (IntKind.u16.wrap (rd l 335))))).setCell ⟨w.heap.size + 1, 0, none⟩ (.int .i64 0)).heap[w.heap.size]? = some (.cells #[.string (strOfNums ((l.take (308 + titleN l)).drop 308)), .int .u8 (rd l 327), .int .i64 (wareT (rd l 327)).1, .bool true, .bool (wareT (rd l 327)).2.2.1, .bool (wareT (rd l 327)).2.2.2.1, .int .i64 (wrap64 (2 * 2 ^ min (rd l 328).toNat 64)), .int .i64 (sizeT (rd l 329)), .int .u8 (rd l 333), .int .u16 (Go.bits .or .u16 (IntKind.u16.wrap (IntKind.u16.wrap (rd l 334) * 256)) (IntKind.u16.wrap (rd l 335)))] 30 (0, 0)) := blk_far m0 (by simp) _
        have m1 : ((((((((((((W5.setCell ⟨gx, 9, none⟩ (.int .u16 (Go.bits .or .u16 (IntKind.u16.wrap (IntKind.u16.wrap (rd l 334) * 256)) (IntKind.u16.wrap (rd l 335))))).setCell ⟨w.heap.size, 0, none⟩ (.string (strOfNums ((l.take (308 + titleN l)).drop 308)))).setCell ⟨w.heap.size, 1, none⟩ (.int .u8 (rd l 327))).setCell ⟨w.heap.size, 2, none⟩ (.int .i64 (wareT (rd l 327)).1)).setCell ⟨w.heap.size, 3, none⟩ (.bool true)).setCell ⟨w.heap.size, 4, none⟩ (.bool (wareT (rd l 327)).2.2.1)).setCell ⟨w.heap.size, 5, none⟩ (.bool (wareT (rd l 327)).2.2.2.1)).setCell ⟨w.heap.size, 6, none⟩ (.int .i64 (wrap64 (2 * 2 ^ min (rd l 328).toNat 64)))).setCell ⟨w.heap.size, 7, none⟩ (.int .i64 (sizeT (rd l 329)))).setCell ⟨w.heap.size, 8, none⟩ (.int .u8 (rd l 333))).setCell ⟨w.heap.size, 9, none⟩ (.int .u16 (Go.bits .or .u16 (IntKind.u16.wrap (IntKind.u16.wrap (rd l 334) * 256)) (IntKind.u16.wrap (rd l 335))))).setCell ⟨w.heap.size + 1, 0, none⟩ (.int .i64 0)).heap[w.heap.size + 1]? = some (.cells #[.int .i64 0] 26 (0, 0)) := blk_put (blk_far (blk_far (blk_far (blk_far (blk_far (blk_far (blk_far (blk_far (blk_far (blk_far (blk_far q1 (by simp; omega) _) (by simp) _) (by simp) _) (by simp) _) (by simp) _) (by simp) _) (by simp) _) (by simp) _) (by simp) _) (by simp) _) (by simp) _) 0 _ rfl
        have m2 : Below w.heap.size w ((((((((((((W5.setCell ⟨gx, 9, none⟩ (.int .u16 (Go.bits .or .u16 (IntKind.u16.wrap (IntKind.u16.wrap (rd l 334) * 256)) (IntKind.u16.wrap (rd l 335))))).setCell ⟨w.heap.size, 0, none⟩ (.string (strOfNums ((l.take (308 + titleN l)).drop 308)))).setCell ⟨w.heap.size, 1, none⟩ (.int .u8 (rd l 327))).setCell ⟨w.heap.size, 2, none⟩ (.int .i64 (wareT (rd l 327)).1)).setCell ⟨w.heap.size, 3, none⟩ (.bool true)).setCell ⟨w.heap.size, 4, none⟩ (.bool (wareT (rd l 327)).2.2.1)).setCell ⟨w.heap.size, 5, none⟩ (.bool (wareT (rd l 327)).2.2.2.1)).setCell ⟨w.heap.size, 6, none⟩ (.int .i64 (wrap64 (2 * 2 ^ min (rd l 328).toNat 64)))).setCell ⟨w.heap.size, 7, none⟩ (.int .i64 (sizeT (rd l 329)))).setCell ⟨w.heap.size, 8, none⟩ (.int .u8 (rd l 333))).setCell ⟨w.heap.size, 9, none⟩ (.int .u16 (Go.bits .or .u16 (IntKind.u16.wrap (IntKind.u16.wrap (rd l 334) * 256)) (IntKind.u16.wrap (rd l 335))))).setCell ⟨w.heap.size + 1, 0, none⟩ (.int .i64 0)) := below_set (below_set (below_set (below_set (below_set (below_set (below_set (below_set (below_set (below_set (below_set (below_set q2 (by omega)) (Nat.le_refl _)) (Nat.le_refl _)) (Nat.le_refl _)) (Nat.le_refl _)) (Nat.le_refl _)) (Nat.le_refl _)) (Nat.le_refl _)) (Nat.le_refl _)) (Nat.le_refl _)) (Nat.le_refl _)) (Nat.le_succ _)
        generalize ((((((((((((W5.setCell ⟨gx, 9, none⟩ (.int .u16 (Go.bits .or .u16 (IntKind.u16.wrap (IntKind.u16.wrap (rd l 334) * 256)) (IntKind.u16.wrap (rd l 335))))).setCell ⟨w.heap.size, 0, none⟩ (.string (strOfNums ((l.take (308 + titleN l)).drop 308)))).setCell ⟨w.heap.size, 1, none⟩ (.int .u8 (rd l 327))).setCell ⟨w.heap.size, 2, none⟩ (.int .i64 (wareT (rd l 327)).1)).setCell ⟨w.heap.size, 3, none⟩ (.bool true)).setCell ⟨w.heap.size, 4, none⟩ (.bool (wareT (rd l 327)).2.2.1)).setCell ⟨w.heap.size, 5, none⟩ (.bool (wareT (rd l 327)).2.2.2.1)).setCell ⟨w.heap.size, 6, none⟩ (.int .i64 (wrap64 (2 * 2 ^ min (rd l 328).toNat 64)))).setCell ⟨w.heap.size, 7, none⟩ (.int .i64 (sizeT (rd l 329)))).setCell ⟨w.heap.size, 8, none⟩ (.int .u8 (rd l 333))).setCell ⟨w.heap.size, 9, none⟩ (.int .u16 (Go.bits .or .u16 (IntKind.u16.wrap (IntKind.u16.wrap (rd l 334) * 256)) (IntKind.u16.wrap (rd l 335))))).setCell ⟨w.heap.size + 1, 0, none⟩ (.int .i64 0)) = Y at m0 m1 m2 ⊢
        clear p q0 q1 q2 fx fh fe hne hne1 hne2 hne3 e0 x0 x1 x2 x3 x4 x5 x6 x7 x8 x9 y0 y1 y2 y3 y4 y5 y6 y7 y8 y9
        have u0 : Y.cell? ⟨w.heap.size, 0, none⟩ = some (.string (strOfNums ((l.take (308 + titleN l)).drop 308))) := (blk_cell m0 0).trans rfl
        have u1 : Y.cell? ⟨w.heap.size, 1, none⟩ = some (.int .u8 (rd l 327)) := (blk_cell m0 1).trans rfl
        have u2 : Y.cell? ⟨w.heap.size, 2, none⟩ = some (.int .i64 (wareT (rd l 327)).1) := (blk_cell m0 2).trans rfl
        have u3 : Y.cell? ⟨w.heap.size, 3, none⟩ = some (.bool true) := (blk_cell m0 3).trans rfl
        have u4 : Y.cell? ⟨w.heap.size, 4, none⟩ = some (.bool (wareT (rd l 327)).2.2.1) := (blk_cell m0 4).trans rfl
        have u5 : Y.cell? ⟨w.heap.size, 5, none⟩ = some (.bool (wareT (rd l 327)).2.2.2.1) := (blk_cell m0 5).trans rfl
        have u6 : Y.cell? ⟨w.heap.size, 6, none⟩ = some (.int .i64 (wrap64 (2 * 2 ^ min (rd l 328).toNat 64))) := (blk_cell m0 6).trans rfl
        have u7 : Y.cell? ⟨w.heap.size, 7, none⟩ = some (.int .i64 (sizeT (rd l 329))) := (blk_cell m0 7).trans rfl
        have u8 : Y.cell? ⟨w.heap.size, 8, none⟩ = some (.int .u8 (rd l 333)) := (blk_cell m0 8).trans rfl
        have u9 : Y.cell? ⟨w.heap.size, 9, none⟩ = some (.int .u16 (Go.bits .or .u16 (IntKind.u16.wrap (IntKind.u16.wrap (rd l 334) * 256)) (IntKind.u16.wrap (rd l 335)))) := (blk_cell m0 9).trans rfl
        have v0 : Y.cell? ⟨w.heap.size + 1, 0, none⟩ = some (.int .i64 0) := (blk_cell m1 0).trans rfl
        refine leaves_cons (f := 53) (args := #[.pointer (some ⟨w.heap.size + 1, 0, none⟩)]) (by simp) (by simp [go_sem]) ?_
        refine (parse_idle ⟨w.heap.size + 1, 0, none⟩ _).mono ?_
        rintro e u' w'' ⟨rfl, rfl, rfl⟩
        simp [Leaves, settle, results, Try.results28, go_sem, ramT, hram, u0, u1, u2, u3, u4, u5, u6, u7, u8, u9, v0, m2]
      | false =>
        rw [hram] at a3
        go_wp2_with fail
        have p : W.heap[gx]? = some (.cells #[.string ⟨#[]⟩, .int .u8 (rd l 327), .int .i64 (wareT (rd l 327)).1, .bool false, .bool (wareT (rd l 327)).2.2.1, .bool (wareT (rd l 327)).2.2.2.1, .int .i64 0, .int .i64 0, .int .u8 0, .int .u16 0] 30 (0, 0)) := by have q := F3.out; rw [hram] at q; exact q
        have p := blk_put (cs' := #[.string (strOfNums ((l.take (308 + titleN l)).drop 308)), .int .u8 (rd l 327), .int .i64 (wareT (rd l 327)).1, .bool false, .bool (wareT (rd l 327)).2.2.1, .bool (wareT (rd l 327)).2.2.2.1, .int .i64 0, .int .i64 0, .int .u8 0, .int .u16 0]) p 0 (.string (strOfNums ((l.take (308 + titleN l)).drop 308))) rfl
        have p := blk_put (cs' := #[.string (strOfNums ((l.take (308 + titleN l)).drop 308)), .int .u8 (rd l 327), .int .i64 (wareT (rd l 327)).1, .bool false, .bool (wareT (rd l 327)).2.2.1, .bool (wareT (rd l 327)).2.2.2.1, .int .i64 (wrap64 (2 * 2 ^ min (rd l 328).toNat 64)), .int .i64 0, .int .u8 0, .int .u16 0]) p 6 (.int .i64 (wrap64 (2 * 2 ^ min (rd l 328).toNat 64))) rfl
        have p := blk_put (cs' := #[.string (strOfNums ((l.take (308 + titleN l)).drop 308)), .int .u8 (rd l 327), .int .i64 (wareT (rd l 327)).1, .bool false, .bool (wareT (rd l 327)).2.2.1, .bool (wareT (rd l 327)).2.2.2.1, .int .i64 (wrap64 (2 * 2 ^ min (rd l 328).toNat 64)), .int .i64 0, .int .u8 (rd l 333), .int .u16 0]) p 8 (.int .u8 (rd l 333)) rfl
        have q0 : (((W.setCell ⟨gx, 0, none⟩ (.string (strOfNums ((l.take (308 + titleN l)).drop 308)))).setCell ⟨gx, 6, none⟩ (.int .i64 (wrap64 (2 * 2 ^ min (rd l 328).toNat 64)))).setCell ⟨gx, 8, none⟩ (.int .u8 (rd l 333))).heap[w.heap.size]? = some (.cells #[.string ⟨#[]⟩, .int .u8 0, .int .i64 0, .bool false, .bool false, .bool false, .int .i64 0, .int .i64 0, .int .u8 0, .int .u16 0] 30 (0, 0)) := (blk_far (blk_far (blk_far F0.out (by simp; omega) _) (by simp; omega) _) (by simp; omega) _)
        have q1 : (((W.setCell ⟨gx, 0, none⟩ (.string (strOfNums ((l.take (308 + titleN l)).drop 308)))).setCell ⟨gx, 6, none⟩ (.int .i64 (wrap64 (2 * 2 ^ min (rd l 328).toNat 64)))).setCell ⟨gx, 8, none⟩ (.int .u8 (rd l 333))).heap[w.heap.size + 1]? = some (.cells #[.int .i64 0] 26 (0, 0)) := (blk_far (blk_far (blk_far F1.out (by simp; omega) _) (by simp; omega) _) (by simp; omega) _)
        have q2 : Below w.heap.size w (((W.setCell ⟨gx, 0, none⟩ (.string (strOfNums ((l.take (308 + titleN l)).drop 308)))).setCell ⟨gx, 6, none⟩ (.int .i64 (wrap64 (2 * 2 ^ min (rd l 328).toNat 64)))).setCell ⟨gx, 8, none⟩ (.int .u8 (rd l 333))) := (below_set (below_set (below_set F2.out (by omega)) (by omega)) (by omega))
        clear a0 a1 a2 a3 a4 a5 a6 a7 a8 a9 c333 hcv KD fz
        generalize (((W.setCell ⟨gx, 0, none⟩ (.string (strOfNums ((l.take (308 + titleN l)).drop 308)))).setCell ⟨gx, 6, none⟩ (.int .i64 (wrap64 (2 * 2 ^ min (rd l 328).toNat 64)))).setCell ⟨gx, 8, none⟩ (.int .u8 (rd l 333))) = W4 at p q0 q1 q2 ⊢
        obtain ⟨ad', ea, c334⟩ := Kd.at_int (Kd.C_below HR.out q2) 334 (by omega) (by omega)
        obtain rfl := Option.some.inj ea
        clear ea
        replace c334 : W4.cell? ⟨ad.block, ad.off + 334, none⟩ = some (.int .u8 (rd l 334)) := c334
        have c334d : W4.drew.cell? ⟨ad.block, ad.off + 334, none⟩ = some (.int .u8 (rd l 334)) := (World.cell?_drew _ _).trans c334
        have p334 : (334 : Int) < l.length := Int.lt_of_lt_of_le (by decide) hli
        obtain ⟨ad', ea, c335⟩ := Kd.at_int (Kd.C_below HR.out q2) 335 (by omega) (by omega)
        obtain rfl := Option.some.inj ea
        clear ea
        replace c335 : W4.cell? ⟨ad.block, ad.off + 335, none⟩ = some (.int .u8 (rd l 335)) := c335
        have c335d : W4.drew.cell? ⟨ad.block, ad.off + 335, none⟩ = some (.int .u8 (rd l 335)) := (World.cell?_drew _ _).trans c335
        have p335 : (335 : Int) < l.length := Int.lt_of_lt_of_le (by decide) hli
        go_still_tail 11, (by kernel_rfl)
        change wpList _ _ _ _ _ W4.drew
        have p := blk_drew p
        have q0 := blk_drew q0
        have q1 := blk_drew q1
        have q2 := below_drew1 q2
        generalize W4.drew = W5 at p q0 q1 q2 ⊢
        clear c334 c335 c334d c335d p334 p335
        have x0 : W5.cell? ⟨gx, 0, none⟩ = some (.string (strOfNums ((l.take (308 + titleN l)).drop 308))) := (blk_cell p 0).trans rfl
        have x1 : W5.cell? ⟨gx, 1, none⟩ = some (.int .u8 (rd l 327)) := (blk_cell p 1).trans rfl
        have x2 : W5.cell? ⟨gx, 2, none⟩ = some (.int .i64 (wareT (rd l 327)).1) := (blk_cell p 2).trans rfl
        have x3 : W5.cell? ⟨gx, 3, none⟩ = some (.bool false) := (blk_cell p 3).trans rfl
        have x4 : W5.cell? ⟨gx, 4, none⟩ = some (.bool (wareT (rd l 327)).2.2.1) := (blk_cell p 4).trans rfl
        have x5 : W5.cell? ⟨gx, 5, none⟩ = some (.bool (wareT (rd l 327)).2.2.2.1) := (blk_cell p 5).trans rfl
        have x6 : W5.cell? ⟨gx, 6, none⟩ = some (.int .i64 (wrap64 (2 * 2 ^ min (rd l 328).toNat 64))) := (blk_cell p 6).trans rfl
        have x7 : W5.cell? ⟨gx, 7, none⟩ = some (.int .i64 0) := (blk_cell p 7).trans rfl
        have x8 : W5.cell? ⟨gx, 8, none⟩ = some (.int .u8 (rd l 333)) := (blk_cell p 8).trans rfl
        have x9 : W5.cell? ⟨gx, 9, none⟩ = some (.int .u16 0) := (blk_cell p 9).trans rfl
        have y0 : W5.cell? ⟨w.heap.size, 0, none⟩ = some (.string ⟨#[]⟩) := (blk_cell q0 0).trans rfl
        have y1 : W5.cell? ⟨w.heap.size, 1, none⟩ = some (.int .u8 0) := (blk_cell q0 1).trans rfl
        have y2 : W5.cell? ⟨w.heap.size, 2, none⟩ = some (.int .i64 0) := (blk_cell q0 2).trans rfl
        have y3 : W5.cell? ⟨w.heap.size, 3, none⟩ = some (.bool false) := (blk_cell q0 3).trans rfl
        have y4 : W5.cell? ⟨w.heap.size, 4, none⟩ = some (.bool false) := (blk_cell q0 4).trans rfl
        have y5 : W5.cell? ⟨w.heap.size, 5, none⟩ = some (.bool false) := (blk_cell q0 5).trans rfl
        have y6 : W5.cell? ⟨w.heap.size, 6, none⟩ = some (.int .i64 0) := (blk_cell q0 6).trans rfl
        have y7 : W5.cell? ⟨w.heap.size, 7, none⟩ = some (.int .i64 0) := (blk_cell q0 7).trans rfl
        have y8 : W5.cell? ⟨w.heap.size, 8, none⟩ = some (.int .u8 0) := (blk_cell q0 8).trans rfl
        have y9 : W5.cell? ⟨w.heap.size, 9, none⟩ = some (.int .u16 0) := (blk_cell q0 9).trans rfl
        have e0 : W5.cell? ⟨w.heap.size + 1, 0, none⟩ = some (.int .i64 0) := (blk_cell q1 0).trans rfl
        have fx := fun i => blk_frozen p i
        have fh := fun i => blk_frozen q0 i
        have fe := fun i => blk_frozen q1 i
        have hne : ¬ w.heap.size = gx := by omega
        have hne1 : ¬ w.heap.size + 1 = gx := by omega
        have hne2 : ¬ gx = w.heap.size := by omega
        have hne3 : ¬ gx = w.heap.size + 1 := by omega
        go_wp2_with fail
        have m0 : (W5.setCell ⟨gx, 9, none⟩ (.int .u16 (Go.bits .or .u16 (IntKind.u16.wrap (IntKind.u16.wrap (rd l 334) * 256)) (IntKind.u16.wrap (rd l 335))))).heap[w.heap.size]? = some (.cells #[.string ⟨#[]⟩, .int .u8 0, .int .i64 0, .bool false, .bool false, .bool false, .int .i64 0, .int .i64 0, .int .u8 0, .int .u16 0] 30 (0, 0)) := blk_far q0 (by simp; omega) _
        have m0 := blk_put (cs' := #[.string (strOfNums ((l.take (308 + titleN l)).drop 308)), .int .u8 0, .int .i64 0, .bool false, .bool false, .bool false, .int .i64 0, .int .i64 0, .int .u8 0, .int .u16 0]) m0 0 (.string (strOfNums ((l.take (308 + titleN l)).drop 308))) rfl
        have m0 := blk_put (cs' := #[.string (strOfNums ((l.take (308 + titleN l)).drop 308)), .int .u8 (rd l 327), .int .i64 0, .bool false, .bool false, .bool false, .int .i64 0, .int .i64 0, .int .u8 0, .int .u16 0]) m0 1 (.int .u8 (rd l 327)) rfl
        have m0 := blk_put (cs' := #[.string (strOfNums ((l.take (308 + titleN l)).drop 308)), .int .u8 (rd l 327), .int .i64 (wareT (rd l 327)).1, .bool false, .bool false, .bool false, .int .i64 0, .int .i64 0, .int .u8 0, .int .u16 0]) m0 2 (.int .i64 (wareT (rd l 327)).1) rfl
        have m0 := blk_put (cs' := #[.string (strOfNums ((l.take (308 + titleN l)).drop 308)), .int .u8 (rd l 327), .int .i64 (wareT (rd l 327)).1, .bool false, .bool false, .bool false, .int .i64 0, .int .i64 0, .int .u8 0, .int .u16 0]) m0 3 (.bool false) rfl
        have m0 := blk_put (cs' := #[.string (strOfNums ((l.take (308 + titleN l)).drop 308)), .int .u8 (rd l 327), .int .i64 (wareT (rd l 327)).1, .bool false, .bool (wareT (rd l 327)).2.2.1, .bool false, .int .i64 0, .int .i64 0, .int .u8 0, .int .u16 0]) m0 4 (.bool (wareT (rd l 327)).2.2.1) rfl
        have m0 := blk_put (cs' := #[.string (strOfNums ((l.take (308 + titleN l)).drop 308)), .int .u8 (rd l 327), .int .i64 (wareT (rd l 327)).1, .bool false, .bool (wareT (rd l 327)).2.2.1, .bool (wareT (rd l 327)).2.2.2.1, .int .i64 0, .int .i64 0, .int .u8 0, .int .u16 0]) m0 5 (.bool (wareT (rd l 327)).2.2.2.1) rfl
        have m0 := blk_put (cs' := #[.string (strOfNums ((l.take (308 + titleN l)).drop 308)), .int .u8 (rd l 327), .int .i64 (wareT (rd l 327)).1, .bool false, .bool (wareT (rd l 327)).2.2.1, .bool (wareT (rd l 327)).2.2.2.1, .int .i64 (wrap64 (2 * 2 ^ min (rd l 328).toNat 64)), .int .i64 0, .int .u8 0, .int .u16 0]) m0 6 (.int .i64 (wrap64 (2 * 2 ^ min (rd l 328).toNat 64))) rfl
        have m0 := blk_put (cs' := #[.string (strOfNums ((l.take (308 + titleN l)).drop 308)), .int .u8 (rd l 327), .int .i64 (wareT (rd l 327)).1, .bool false, .bool (wareT (rd l 327)).2.2.1, .bool (wareT (rd l 327)).2.2.2.1, .int .i64 (wrap64 (2 * 2 ^ min (rd l 328).toNat 64)), .int .i64 0, .int .u8 0, .int .u16 0]) m0 7 (.int .i64 0) rfl
        have m0 := blk_put (cs' := #[.string (strOfNums ((l.take (308 + titleN l)).drop 308)), .int .u8 (rd l 327), .int .i64 (wareT (rd l 327)).1, .bool false, .bool (wareT (rd l 327)).2.2.1, .bool (wareT (rd l 327)).2.2.2.1, .int .i64 (wrap64 (2 * 2 ^ min (rd l 328).toNat 64)), .int .i64 0, .int .u8 (rd l 333), .int .u16 0]) m0 8 (.int .u8 (rd l 333)) rfl
        have m0 := blk_put (cs' := #[.string (strOfNums ((l.take (308 + titleN l)).drop 308)), .int .u8 (rd l 327), .int .i64 (wareT (rd l 327)).1, .bool false, .bool (wareT (rd l 327)).2.2.1, .bool (wareT (rd l 327)).2.2.2.1, .int .i64 (wrap64 (2 * 2 ^ min (rd l 328).toNat 64)), .int .i64 0, .int .u8 (rd l 333), .int .u16 (Go.bits .or .u16 (IntKind.u16.wrap (IntKind.u16.wrap (rd l 334) * 256)) (IntKind.u16.wrap (rd l 335)))]) m0 9 (.int .u16 (Go.bits .or .u16 (IntKind.u16.wrap (IntKind.u16.wrap (rd l 334) * 256)) (IntKind.u16.wrap (rd l 335)))) rfl
        have m0 : ((((((((((((W5.setCell ⟨gx, 9, none⟩ (.int .u16 (Go.bits .or .u16 (IntKind.u16.wrap (IntKind.u16.wrap (rd l 334) * 256)) (IntKind.u16.wrap (rd l 335))))).setCell ⟨w.heap.size, 0, none⟩ (.string (strOfNums ((l.take (308 + titleN l)).drop 308)))).setCell ⟨w.heap.size, 1, none⟩ (.int .u8 (rd l 327))).setCell ⟨w.heap.size, 2, none⟩ (.int .i64 (wareT (rd l 327)).1)).setCell ⟨w.heap.size, 3, none⟩ (.bool false)).setCell ⟨w.heap.size, 4, none⟩ (.bool (wareT (rd l 327)).2.2.1)).setCell ⟨w.heap.size, 5, none⟩ (.bool (wareT (rd l 327)).2.2.2.1)).setCell ⟨w.heap.size, 6, none⟩ (.int .i64 (wrap64 (2 * 2 ^ min (rd l 328).toNat 64)))).setCell ⟨w.heap.size, 7, none⟩ (.int .i64 0)).setCell ⟨w.heap.size, 8, none⟩ (.int .u8 (rd l 333))).setCell ⟨w.heap.size, 9, none⟩ (.int .u16 (Go.bits .or .u16 (IntKind.u16.wrap (IntKind.u16.wrap (rd l 334) * 256)) (IntKind.u16.wrap (rd l 335))))).setCell ⟨w.heap.size + 1, 0, none⟩ (.int .i64 0)).heap[w.heap.size]? = some (.cells #[.string (strOfNums ((l.take (308 + titleN l)).drop 308)), .int .u8 (rd l 327), .int .i64 (wareT (rd l 327)).1, .bool false, .bool (wareT (rd l 327)).2.2.1, .bool (wareT (rd l 327)).2.2.2.1, .int .i64 (wrap64 (2 * 2 ^ min (rd l 328).toNat 64)), .int .i64 0, .int .u8 (rd l 333), .int .u16 (Go.bits .or .u16 (IntKind.u16.wrap (IntKind.u16.wrap (rd l 334) * 256)) (IntKind.u16.wrap (rd l 335)))] 30 (0, 0)) := blk_far m0 (by simp) _
        have m1 : ((((((((((((W5.setCell ⟨gx, 9, none⟩ (.int .u16 (Go.bits .or .u16 (IntKind.u16.wrap (IntKind.u16.wrap (rd l 334) * 256)) (IntKind.u16.wrap (rd l 335))))).setCell ⟨w.heap.size, 0, none⟩ (.string (strOfNums ((l.take (308 + titleN l)).drop 308)))).setCell ⟨w.heap.size, 1, none⟩ (.int .u8 (rd l 327))).setCell ⟨w.heap.size, 2, none⟩ (.int .i64 (wareT (rd l 327)).1)).setCell ⟨w.heap.size, 3, none⟩ (.bool false)).setCell ⟨w.heap.size, 4, none⟩ (.bool (wareT (rd l 327)).2.2.1)).setCell ⟨w.heap.size, 5, none⟩ (.bool (wareT (rd l 327)).2.2.2.1)).setCell ⟨w.heap.size, 6, none⟩ (.int .i64 (wrap64 (2 * 2 ^ min (rd l 328).toNat 64)))).setCell ⟨w.heap.size, 7, none⟩ (.int .i64 0)).setCell ⟨w.heap.size, 8, none⟩ (.int .u8 (rd l 333))).setCell ⟨w.heap.size, 9, none⟩ (.int .u16 (Go.bits .or .u16 (IntKind.u16.wrap (IntKind.u16.wrap (rd l 334) * 256)) (IntKind.u16.wrap (rd l 335))))).setCell ⟨w.heap.size + 1, 0, none⟩ (.int .i64 0)).heap[w.heap.size + 1]? = some (.cells #[.int .i64 0] 26 (0, 0)) := blk_put (blk_far (blk_far (blk_far (blk_far (blk_far (blk_far (blk_far (blk_far (blk_far (blk_far (blk_far q1 (by simp; omega) _) (by simp) _) (by simp) _) (by simp) _) (by simp) _) (by simp) _) (by simp) _) (by simp) _) (by simp) _) (by simp) _) (by simp) _) 0 _ rfl
        have m2 : Below w.heap.size w ((((((((((((W5.setCell ⟨gx, 9, none⟩ (.int .u16 (Go.bits .or .u16 (IntKind.u16.wrap (IntKind.u16.wrap (rd l 334) * 256)) (IntKind.u16.wrap (rd l 335))))).setCell ⟨w.heap.size, 0, none⟩ (.string (strOfNums ((l.take (308 + titleN l)).drop 308)))).setCell ⟨w.heap.size, 1, none⟩ (.int .u8 (rd l 327))).setCell ⟨w.heap.size, 2, none⟩ (.int .i64 (wareT (rd l 327)).1)).setCell ⟨w.heap.size, 3, none⟩ (.bool false)).setCell ⟨w.heap.size, 4, none⟩ (.bool (wareT (rd l 327)).2.2.1)).setCell ⟨w.heap.size, 5, none⟩ (.bool (wareT (rd l 327)).2.2.2.1)).setCell ⟨w.heap.size, 6, none⟩ (.int .i64 (wrap64 (2 * 2 ^ min (rd l 328).toNat 64)))).setCell ⟨w.heap.size, 7, none⟩ (.int .i64 0)).setCell ⟨w.heap.size, 8, none⟩ (.int .u8 (rd l 333))).setCell ⟨w.heap.size, 9, none⟩ (.int .u16 (Go.bits .or .u16 (IntKind.u16.wrap (IntKind.u16.wrap (rd l 334) * 256)) (IntKind.u16.wrap (rd l 335))))).setCell ⟨w.heap.size + 1, 0, none⟩ (.int .i64 0)) := below_set (below_set (below_set (below_set (below_set (below_set (below_set (below_set (below_set (below_set (below_set (below_set q2 (by omega)) (Nat.le_refl _)) (Nat.le_refl _)) (Nat.le_refl _)) (Nat.le_refl _)) (Nat.le_refl _)) (Nat.le_refl _)) (Nat.le_refl _)) (Nat.le_refl _)) (Nat.le_refl _)) (Nat.le_refl _)) (Nat.le_succ _)
        generalize ((((((((((((W5.setCell ⟨gx, 9, none⟩ (.int .u16 (Go.bits .or .u16 (IntKind.u16.wrap (IntKind.u16.wrap (rd l 334) * 256)) (IntKind.u16.wrap (rd l 335))))).setCell ⟨w.heap.size, 0, none⟩ (.string (strOfNums ((l.take (308 + titleN l)).drop 308)))).setCell ⟨w.heap.size, 1, none⟩ (.int .u8 (rd l 327))).setCell ⟨w.heap.size, 2, none⟩ (.int .i64 (wareT (rd l 327)).1)).setCell ⟨w.heap.size, 3, none⟩ (.bool false)).setCell ⟨w.heap.size, 4, none⟩ (.bool (wareT (rd l 327)).2.2.1)).setCell ⟨w.heap.size, 5, none⟩ (.bool (wareT (rd l 327)).2.2.2.1)).setCell ⟨w.heap.size, 6, none⟩ (.int .i64 (wrap64 (2 * 2 ^ min (rd l 328).toNat 64)))).setCell ⟨w.heap.size, 7, none⟩ (.int .i64 0)).setCell ⟨w.heap.size, 8, none⟩ (.int .u8 (rd l 333))).setCell ⟨w.heap.size, 9, none⟩ (.int .u16 (Go.bits .or .u16 (IntKind.u16.wrap (IntKind.u16.wrap (rd l 334) * 256)) (IntKind.u16.wrap (rd l 335))))).setCell ⟨w.heap.size + 1, 0, none⟩ (.int .i64 0)) = Y at m0 m1 m2 ⊢
        clear p q0 q1 q2 fx fh fe hne hne1 hne2 hne3 e0 x0 x1 x2 x3 x4 x5 x6 x7 x8 x9 y0 y1 y2 y3 y4 y5 y6 y7 y8 y9
        have u0 : Y.cell? ⟨w.heap.size, 0, none⟩ = some (.string (strOfNums ((l.take (308 + titleN l)).drop 308))) := (blk_cell m0 0).trans rfl
        have u1 : Y.cell? ⟨w.heap.size, 1, none⟩ = some (.int .u8 (rd l 327)) := (blk_cell m0 1).trans rfl
        have u2 : Y.cell? ⟨w.heap.size, 2, none⟩ = some (.int .i64 (wareT (rd l 327)).1) := (blk_cell m0 2).trans rfl
        have u3 : Y.cell? ⟨w.heap.size, 3, none⟩ = some (.bool false) := (blk_cell m0 3).trans rfl
        have u4 : Y.cell? ⟨w.heap.size, 4, none⟩ = some (.bool (wareT (rd l 327)).2.2.1) := (blk_cell m0 4).trans rfl
        have u5 : Y.cell? ⟨w.heap.size, 5, none⟩ = some (.bool (wareT (rd l 327)).2.2.2.1) := (blk_cell m0 5).trans rfl
        have u6 : Y.cell? ⟨w.heap.size, 6, none⟩ = some (.int .i64 (wrap64 (2 * 2 ^ min (rd l 328).toNat 64))) := (blk_cell m0 6).trans rfl
        have u7 : Y.cell? ⟨w.heap.size, 7, none⟩ = some (.int .i64 0) := (blk_cell m0 7).trans rfl
        have u8 : Y.cell? ⟨w.heap.size, 8, none⟩ = some (.int .u8 (rd l 333)) := (blk_cell m0 8).trans rfl
        have u9 : Y.cell? ⟨w.heap.size, 9, none⟩ = some (.int .u16 (Go.bits .or .u16 (IntKind.u16.wrap (IntKind.u16.wrap (rd l 334) * 256)) (IntKind.u16.wrap (rd l 335)))) := (blk_cell m0 9).trans rfl
        have v0 : Y.cell? ⟨w.heap.size + 1, 0, none⟩ = some (.int .i64 0) := (blk_cell m1 0).trans rfl
        refine leaves_cons (f := 53) (args := #[.pointer (some ⟨w.heap.size + 1, 0, none⟩)]) (by simp) (by simp [go_sem]) ?_
        refine (parse_idle ⟨w.heap.size + 1, 0, none⟩ _).mono ?_
        rintro e u' w'' ⟨rfl, rfl, rfl⟩
        simp [Leaves, settle, results, Try.results28, go_sem, ramT, hram, u0, u1, u2, u3, u4, u5, u6, u7, u8, u9, v0, m2]
    have hlt : (j : Int) < 16 := by omega
    obtain ⟨ad', ea, cb⟩ := Kd.at_int (Kd.C_below HR.out F2.out) (308 + (j : Int)) (by omega) (by omega)
    obtain rfl := Option.some.inj ea
    clear ea
    rw [show (308 + (j : Int)).toNat = 308 + j by omega] at cb
    have cb' : wr.cell? ⟨ad.block, ad.off + (308 + j), none⟩ = some (.int .u8 (rd l (308 + (j : Int)))) := by simpa [Addr.add] using cb
    have hf : 16 - j = (15 - j) + 1 := by omega
    rw [hf, titleTo] at ht
    go_wp2_with fail
    (with_reducible refine (header_printable.calls _ _ _ (prb_calls _)).mono ?_)
    rintro e' w' ⟨rfl, ⟨nd, rfl⟩⟩
    cases hp : prb (rd l (308 + (j : Int))) with
    | true =>
      rw [if_pos hp] at ht
      go_wp2_with fail
      refine ⟨⟨j + 1, by simp, Aside0.mk ⟨by omega, ?_, blk_drewN F0.out _, blk_drewN F1.out _, blk_drewN F3.out _, pw_below_drewN F2.out _⟩⟩, by simp [intOf]; omega⟩
      rw [show 16 - (j + 1) = 15 - j by omega]; exact ht
    | false =>
      rw [if_neg (by rw [hp]; simp)] at ht
      have hn : titleN l = j := ht.symm
      have F0 := Aside0.mk (blk_drewN F0.out nd)
      have F1 := Aside0.mk (blk_drewN F1.out nd)
      have F2 := Aside0.mk (pw_below_drewN F2.out nd)
      have F3 := Aside0.mk (blk_drewN F3.out nd)
      clear ht cb cb' hf hp
      generalize wr.drewN nd = W at F0 F1 F2 F3 ⊢
      subst hn
      have hcj : (308 + (titleN l : Int)) ≤ c := by omega
      have KD : Kd.C (Kd.int .u8) W (some ⟨ad.block, ad.off + 308, none⟩) (titleN l) ((l.take (308 + titleN l)).drop 308) := by
        have q := Kd.C_drop (m := 308) (Kd.C_take (m := 308 + titleN l) (Kd.C_below HR.out F2.out) (by omega)) (by simp; omega) (show (l.take (308 + titleN l)).length ≤ c by simp; omega)
        have e : ((l.take (308 + titleN l)).drop 308).length = titleN l := by simp; omega
        rw [e, if_neg (by omega)] at q
        exact q
      have hcv : (convert 22 9 (.slice (some ⟨ad.block, ad.off + 308, none⟩) (titleN l) (c - 308))).run Try.prog W = .ok (.string (strOfNums ((l.take (308 + titleN l)).drop 308))) W := Kd.C_string Try.underlying22 Try.underlying5 Try.underlying9 KD
      have a0 : W.cell? ⟨gx, 0, none⟩ = some (.string ⟨#[]⟩) := (blk_cell F3.out 0).trans rfl
      have a1 : W.cell? ⟨gx, 1, none⟩ = some (.int .u8 (rd l 327)) := (blk_cell F3.out 1).trans rfl
      have a2 : W.cell? ⟨gx, 2, none⟩ = some (.int .i64 (wareT (rd l 327)).1) := (blk_cell F3.out 2).trans rfl
      have a3 : W.cell? ⟨gx, 3, none⟩ = some (.bool (wareT (rd l 327)).2.1) := (blk_cell F3.out 3).trans rfl
      have a4 : W.cell? ⟨gx, 4, none⟩ = some (.bool (wareT (rd l 327)).2.2.1) := (blk_cell F3.out 4).trans rfl
      have a5 : W.cell? ⟨gx, 5, none⟩ = some (.bool (wareT (rd l 327)).2.2.2.1) := (blk_cell F3.out 5).trans rfl
      have a6 : W.cell? ⟨gx, 6, none⟩ = some (.int .i64 0) := (blk_cell F3.out 6).trans rfl
      have a7 : W.cell? ⟨gx, 7, none⟩ = some (.int .i64 0) := (blk_cell F3.out 7).trans rfl
      have a8 : W.cell? ⟨gx, 8, none⟩ = some (.int .u8 0) := (blk_cell F3.out 8).trans rfl
      have a9 : W.cell? ⟨gx, 9, none⟩ = some (.int .u16 0) := (blk_cell F3.out 9).trans rfl
      have fz := fun i => blk_frozen F3.out i
      obtain ⟨ad', ea, c333⟩ := Kd.at_int (Kd.C_below HR.out F2.out) 333 (by omega) (by omega)
      obtain rfl := Option.some.inj ea
      clear ea
      replace c333 : W.cell? ⟨ad.block, ad.off + 333, none⟩ = some (.int .u8 (rd l 333)) := c333
      have hix := fun W => idx_ok (rd l 329) ⟨h50, of_decide_eq_true h5⟩ W
      cases hram : (wareT (rd l 327)).2.1 with
      | true =>
        rw [hram] at a3
        go_wp2_with fail
        have p : W.heap[gx]? = some (.cells #[.string ⟨#[]⟩, .int .u8 (rd l 327), .int .i64 (wareT (rd l 327)).1, .bool true, .bool (wareT (rd l 327)).2.2.1, .bool (wareT (rd l 327)).2.2.2.1, .int .i64 0, .int .i64 0, .int .u8 0, .int .u16 0] 30 (0, 0)) := by have q := F3.out; rw [hram] at q; exact q
        have p := blk_put (cs' := #[.string (strOfNums ((l.take (308 + titleN l)).drop 308)), .int .u8 (rd l 327), .int .i64 (wareT (rd l 327)).1, .bool true, .bool (wareT (rd l 327)).2.2.1, .bool (wareT (rd l 327)).2.2.2.1, .int .i64 0, .int .i64 0, .int .u8 0, .int .u16 0]) p 0 (.string (strOfNums ((l.take (308 + titleN l)).drop 308))) rfl
        have p := blk_put (cs' := #[.string (strOfNums ((l.take (308 + titleN l)).drop 308)), .int .u8 (rd l 327), .int .i64 (wareT (rd l 327)).1, .bool true, .bool (wareT (rd l 327)).2.2.1, .bool (wareT (rd l 327)).2.2.2.1, .int .i64 (wrap64 (2 * 2 ^ min (rd l 328).toNat 64)), .int .i64 0, .int .u8 0, .int .u16 0]) p 6 (.int .i64 (wrap64 (2 * 2 ^ min (rd l 328).toNat 64))) rfl
        have p := blk_put (cs' := #[.string (strOfNums ((l.take (308 + titleN l)).drop 308)), .int .u8 (rd l 327), .int .i64 (wareT (rd l 327)).1, .bool true, .bool (wareT (rd l 327)).2.2.1, .bool (wareT (rd l 327)).2.2.2.1, .int .i64 (wrap64 (2 * 2 ^ min (rd l 328).toNat 64)), .int .i64 (sizeT (rd l 329)), .int .u8 0, .int .u16 0]) p 7 (.int .i64 (sizeT (rd l 329))) rfl
        have p := blk_put (cs' := #[.string (strOfNums ((l.take (308 + titleN l)).drop 308)), .int .u8 (rd l 327), .int .i64 (wareT (rd l 327)).1, .bool true, .bool (wareT (rd l 327)).2.2.1, .bool (wareT (rd l 327)).2.2.2.1, .int .i64 (wrap64 (2 * 2 ^ min (rd l 328).toNat 64)), .int .i64 (sizeT (rd l 329)), .int .u8 (rd l 333), .int .u16 0]) p 8 (.int .u8 (rd l 333)) rfl
        have q0 : ((((W.setCell ⟨gx, 0, none⟩ (.string (strOfNums ((l.take (308 + titleN l)).drop 308)))).setCell ⟨gx, 6, none⟩ (.int .i64 (wrap64 (2 * 2 ^ min (rd l 328).toNat 64)))).setCell ⟨gx, 7, none⟩ (.int .i64 (sizeT (rd l 329)))).setCell ⟨gx, 8, none⟩ (.int .u8 (rd l 333))).heap[w.heap.size]? = some (.cells #[.string ⟨#[]⟩, .int .u8 0, .int .i64 0, .bool false, .bool false, .bool false, .int .i64 0, .int .i64 0, .int .u8 0, .int .u16 0] 30 (0, 0)) := (blk_far (blk_far (blk_far (blk_far F0.out (by simp; omega) _) (by simp; omega) _) (by simp; omega) _) (by simp; omega) _)
        have q1 : ((((W.setCell ⟨gx, 0, none⟩ (.string (strOfNums ((l.take (308 + titleN l)).drop 308)))).setCell ⟨gx, 6, none⟩ (.int .i64 (wrap64 (2 * 2 ^ min (rd l 328).toNat 64)))).setCell ⟨gx, 7, none⟩ (.int .i64 (sizeT (rd l 329)))).setCell ⟨gx, 8, none⟩ (.int .u8 (rd l 333))).heap[w.heap.size + 1]? = some (.cells #[.int .i64 0] 26 (0, 0)) := (blk_far (blk_far (blk_far (blk_far F1.out (by simp; omega) _) (by simp; omega) _) (by simp; omega) _) (by simp; omega) _)
        have q2 : Below w.heap.size w ((((W.setCell ⟨gx, 0, none⟩ (.string (strOfNums ((l.take (308 + titleN l)).drop 308)))).setCell ⟨gx, 6, none⟩ (.int .i64 (wrap64 (2 * 2 ^ min (rd l 328).toNat 64)))).setCell ⟨gx, 7, none⟩ (.int .i64 (sizeT (rd l 329)))).setCell ⟨gx, 8, none⟩ (.int .u8 (rd l 333))) := (below_set (below_set (below_set (below_set F2.out (by omega)) (by omega)) (by omega)) (by omega))
        clear a0 a1 a2 a3 a4 a5 a6 a7 a8 a9 c333 hcv KD fz
        generalize ((((W.setCell ⟨gx, 0, none⟩ (.string (strOfNums ((l.take (308 + titleN l)).drop 308)))).setCell ⟨gx, 6, none⟩ (.int .i64 (wrap64 (2 * 2 ^ min (rd l 328).toNat 64)))).setCell ⟨gx, 7, none⟩ (.int .i64 (sizeT (rd l 329)))).setCell ⟨gx, 8, none⟩ (.int .u8 (rd l 333))) = W4 at p q0 q1 q2 ⊢
        obtain ⟨ad', ea, c334⟩ := Kd.at_int (Kd.C_below HR.out q2) 334 (by omega) (by omega)
        obtain rfl := Option.some.inj ea
        clear ea
        replace c334 : W4.cell? ⟨ad.block, ad.off + 334, none⟩ = some (.int .u8 (rd l 334)) := c334
        have c334d : W4.drew.cell? ⟨ad.block, ad.off + 334, none⟩ = some (.int .u8 (rd l 334)) := (World.cell?_drew _ _).trans c334
        have p334 : (334 : Int) < l.length := Int.lt_of_lt_of_le (by decide) hli
        obtain ⟨ad', ea, c335⟩ := Kd.at_int (Kd.C_below HR.out q2) 335 (by omega) (by omega)
        obtain rfl := Option.some.inj ea
        clear ea
        replace c335 : W4.cell? ⟨ad.block, ad.off + 335, none⟩ = some (.int .u8 (rd l 335)) := c335
        have c335d : W4.drew.cell? ⟨ad.block, ad.off + 335, none⟩ = some (.int .u8 (rd l 335)) := (World.cell?_drew _ _).trans c335
        have p335 : (335 : Int) < l.length := Int.lt_of_lt_of_le (by decide) hli
        go_still_tail 11, (by kernel_rfl)
        change wpList _ _ _ _ _ W4.drew
        have p := blk_drew p
        have q0 := blk_drew q0
        have q1 := blk_drew q1
        have q2 := below_drew1 q2
        generalize W4.drew = W5 at p q0 q1 q2 ⊢
        clear c334 c335 c334d c335d p334 p335
        have x0 : W5.cell? ⟨gx, 0, none⟩ = some (.string (strOfNums ((l.take (308 + titleN l)).drop 308))) := (blk_cell p 0).trans rfl
        have x1 : W5.cell? ⟨gx, 1, none⟩ = some (.int .u8 (rd l 327)) := (blk_cell p 1).trans rfl
        have x2 : W5.cell? ⟨gx, 2, none⟩ = some (.int .i64 (wareT (rd l 327)).1) := (blk_cell p 2).trans rfl
        have x3 : W5.cell? ⟨gx, 3, none⟩ = some (.bool true) := (blk_cell p 3).trans rfl
        have x4 : W5.cell? ⟨gx, 4, none⟩ = some (.bool (wareT (rd l 327)).2.2.1) := (blk_cell p 4).trans rfl
        have x5 : W5.cell? ⟨gx, 5, none⟩ = some (.bool (wareT (rd l 327)).2.2.2.1) := (blk_cell p 5).trans rfl
        have x6 : W5.cell? ⟨gx, 6, none⟩ = some (.int .i64 (wrap64 (2 * 2 ^ min (rd l 328).toNat 64))) := (blk_cell p 6).trans rfl
        have x7 : W5.cell? ⟨gx, 7, none⟩ = some (.int .i64 (sizeT (rd l 329))) := (blk_cell p 7).trans rfl
        have x8 : W5.cell? ⟨gx, 8, none⟩ = some (.int .u8 (rd l 333)) := (blk_cell p 8).trans rfl
        have x9 : W5.cell? ⟨gx, 9, none⟩ = some (.int .u16 0) := (blk_cell p 9).trans rfl
        have y0 : W5.cell? ⟨w.heap.size, 0, none⟩ = some (.string ⟨#[]⟩) := (blk_cell q0 0).trans rfl
        have y1 : W5.cell? ⟨w.heap.size, 1, none⟩ = some (.int .u8 0) := (blk_cell q0 1).trans rfl
        have y2 : W5.cell? ⟨w.heap.size, 2, none⟩ = some (.int .i64 0) := (blk_cell q0 2).trans rfl
        have y3 : W5.cell? ⟨w.heap.size, 3, none⟩ = some (.bool false) := (blk_cell q0 3).trans rfl
        have y4 : W5.cell? ⟨w.heap.size, 4, none⟩ = some (.bool false) := (blk_cell q0 4).trans rfl
        have y5 : W5.cell? ⟨w.heap.size, 5, none⟩ = some (.bool false) := (blk_cell q0 5).trans rfl
        have y6 : W5.cell? ⟨w.heap.size, 6, none⟩ = some (.int .i64 0) := (blk_cell q0 6).trans rfl
        have y7 : W5.cell? ⟨w.heap.size, 7, none⟩ = some (.int .i64 0) := (blk_cell q0 7).trans rfl
        have y8 : W5.cell? ⟨w.heap.size, 8, none⟩ = some (.int .u8 0) := (blk_cell q0 8).trans rfl
        have y9 : W5.cell? ⟨w.heap.size, 9, none⟩ = some (.int .u16 0) := (blk_cell q0 9).trans rfl
        have e0 : W5.cell? ⟨w.heap.size + 1, 0, none⟩ = some (.int .i64 0) := (blk_cell q1 0).trans rfl
        have fx := fun i => blk_frozen p i
        have fh := fun i => blk_frozen q0 i
        have fe := fun i => blk_frozen q1 i
        have hne : ¬ w.heap.size = gx := by omega
        have hne1 : ¬ w.heap.size + 1 = gx := by omega
        have hne2 : ¬ gx = w.heap.size := by omega
        have hne3 : ¬ gx = w.heap.size + 1 := by omega
        go_wp2_with fail
        have m0 : (W5.setCell ⟨gx, 9, none⟩ (.int .u16 (Go.bits .or .u16 (IntKind.u16.wrap (IntKind.u16.wrap (rd l 334) * 256)) (IntKind.u16.wrap (rd l 335))))).heap[w.heap.size]? = some (.cells #[.string ⟨#[]⟩, .int .u8 0, .int .i64 0, .bool false, .bool false, .bool false, .int .i64 0, .int .i64 0, .int .u8 0, .int .u16 0] 30 (0, 0)) := blk_far q0 (by simp; omega) _
        have m0 := blk_put (cs' := #[.string (strOfNums ((l.take (308 + titleN l)).drop 308)), .int .u8 0, .int .i64 0, .bool false, .bool false, .bool false, .int .i64 0, .int .i64 0, .int .u8 0, .int .u16 0]) m0 0 (.string (strOfNums ((l.take (308 + titleN l)).drop 308))) rfl
        have m0 := blk_put (cs' := #[.string (strOfNums ((l.take (308 + titleN l)).drop 308)), .int .u8 (rd l 327), .int .i64 0, .bool false, .bool false, .bool false, .int .i64 0, .int .i64 0, .int .u8 0, .int .u16 0]) m0 1 (.int .u8 (rd l 327)) rfl
        have m0 := blk_put (cs' := #[.string (strOfNums ((l.take (308 + titleN l)).drop 308)), .int .u8 (rd l 327), .int .i64 (wareT (rd l 327)).1, .bool false, .bool false, .bool false, .int .i64 0, .int .i64 0, .int .u8 0, .int .u16 0]) m0 2 (.int .i64 (wareT (rd l 327)).1) rfl
        have m0 := blk_put (cs' := #[.string (strOfNums ((l.take (308 + titleN l)).drop 308)), .int .u8 (rd l 327), .int .i64 (wareT (rd l 327)).1, .bool true, .bool false, .bool false, .int .i64 0, .int .i64 0, .int .u8 0, .int .u16 0]) m0 3 (.bool true) rfl
        have m0 := blk_put (cs' := #[.string (strOfNums ((l.take (308 + titleN l)).drop 308)), .int .u8 (rd l 327), .int .i64 (wareT (rd l 327)).1, .bool true, .bool (wareT (rd l 327)).2.2.1, .bool false, .int .i64 0, .int .i64 0, .int .u8 0, .int .u16 0]) m0 4 (.bool (wareT (rd l 327)).2.2.1) rfl
        have m0 := blk_put (cs' := #[.string (strOfNums ((l.take (308 + titleN l)).drop 308)), .int .u8 (rd l 327), .int .i64 (wareT (rd l 327)).1, .bool true, .bool (wareT (rd l 327)).2.2.1, .bool (wareT (rd l 327)).2.2.2.1, .int .i64 0, .int .i64 0, .int .u8 0, .int .u16 0]) m0 5 (.bool (wareT (rd l 327)).2.2.2.1) rfl
        have m0 := blk_put (cs' := #[.string (strOfNums ((l.take (308 + titleN l)).drop 308)), .int .u8 (rd l 327), .int .i64 (wareT (rd l 327)).1, .bool true, .bool (wareT (rd l 327)).2.2.1, .bool (wareT (rd l 327)).2.2.2.1, .int .i64 (wrap64 (2 * 2 ^ min (rd l 328).toNat 64)), .int .i64 0, .int .u8 0, .int .u16 0]) m0 6 (.int .i64 (wrap64 (2 * 2 ^ min (rd l 328).toNat 64))) rfl
        have m0 := blk_put (cs' := #[.string (strOfNums ((l.take (308 + titleN l)).drop 308)), .int .u8 (rd l 327), .int .i64 (wareT (rd l 327)).1, .bool true, .bool (wareT (rd l 327)).2.2.1, .bool (wareT (rd l 327)).2.2.2.1, .int .i64 (wrap64 (2 * 2 ^ min (rd l 328).toNat 64)), .int .i64 (sizeT (rd l 329)), .int .u8 0, .int .u16 0]) m0 7 (.int .i64 (sizeT (rd l 329))) rfl
        have m0 := blk_put (cs' := #[.string (strOfNums ((l.take (308 + titleN l)).drop 308)), .int .u8 (rd l 327), .int .i64 (wareT (rd l 327)).1, .bool true, .bool (wareT (rd l 327)).2.2.1, .bool (wareT (rd l 327)).2.2.2.1, .int .i64 (wrap64 (2 * 2 ^ min (rd l 328).toNat 64)), .int .i64 (sizeT (rd l 329)), .int .u8 (rd l 333), .int .u16 0]) m0 8 (.int .u8 (rd l 333)) rfl
        have m0 := blk_put (cs' := #[.string (strOfNums ((l.take (308 + titleN l)).drop 308)), .int .u8 (rd l 327), .int .i64 (wareT (rd l 327)).1, .bool true, .bool (wareT (rd l 327)).2.2.1, .bool (wareT (rd l 327)).2.2.2.1, .int .i64 (wrap64 (2 * 2 ^ min (rd l 328).toNat 64)), .int .i64 (sizeT (rd l 329)), .int .u8 (rd l 333), .int .u16 (Go.bits .or .u16 (IntKind.u16.wrap (IntKind.u16.wrap (rd l 334) * 256)) (IntKind.u16.wrap (rd l 335)))]) m0 9 (.int .u16 (Go.bits .or .u16 (IntKind.u16.wrap (IntKind.u16.wrap (rd l 334) * 256)) (IntKind.u16.wrap (rd l 335)))) rfl
        have m0 : ((((((((((((W5.setCell ⟨gx, 9, none⟩ (.int .u16 (Go.bits .or .u16 (IntKind.u16.wrap (IntKind.u16.wrap (rd l 334) * 256)) (IntKind.u16.wrap (rd l 335))))).setCell ⟨w.heap.size, 0, none⟩ (.string (strOfNums ((l.take (308 + titleN l)).drop 308)))).setCell ⟨w.heap.size, 1, none⟩ (.int .u8 (rd l 327))).setCell ⟨w.heap.size, 2, none⟩ (.int .i64 (wareT (rd l 327)).1)).setCell ⟨w.heap.size, 3, none⟩ (.bool true)).setCell ⟨w.heap.size, 4, none⟩ (.bool (wareT (rd l 327)).2.2.1)).setCell ⟨w.heap.size, 5, none⟩ (.bool (wareT (rd l 327)).2.2.2.1)).setCell ⟨w.heap.size, 6, none⟩ (.int .i64 (wrap64 (2 * 2 ^ min (rd l 328).toNat 64)))).setCell ⟨w.heap.size, 7, none⟩ (.int .i64 (sizeT (rd l 329)))).setCell ⟨w.heap.size, 8, none⟩ (.int .u8 (rd l 333))).setCell ⟨w.heap.size, 9, none⟩ (.int .u16 (Go.bits .or .u16 (IntKind.u16.wrap (IntKind.u16.wrap (rd l 334) * 256)) (IntKind.u16.wrap (rd l 335))))).setCell ⟨w.heap.size + 1, 0, none⟩ (.int .i64 0)).heap[w.heap.size]? = some (.cells #[.string (strOfNums ((l.take (308 + titleN l)).drop 308)), .int .u8 (rd l 327), .int .i64 (wareT (rd l 327)).1, .bool true, .bool (wareT (rd l 327)).2.2.1, .bool (wareT (rd l 327)).2.2.2.1, .int .i64 (wrap64 (2 * 2 ^ min (rd l 328).toNat 64)), .int .i64 (sizeT (rd l 329)), .int .u8 (rd l 333), .int .u16 (Go.bits .or .u16 (IntKind.u16.wrap (IntKind.u16.wrap (rd l 334) * 256)) (IntKind.u16.wrap (rd l 335)))] 30 (0, 0)) := blk_far m0 (by simp) _
        have m1 : ((((((((((((W5.setCell ⟨gx, 9, none⟩ (.int .u16 (Go.bits .or .u16 (IntKind.u16.wrap (IntKind.u16.wrap (rd l 334) * 256)) (IntKind.u16.wrap (rd l 335))))).setCell ⟨w.heap.size, 0, none⟩ (.string (strOfNums ((l.take (308 + titleN l)).drop 308)))).setCell ⟨w.heap.size, 1, none⟩ (.int .u8 (rd l 327))).setCell ⟨w.heap.size, 2, none⟩ (.int .i64 (wareT (rd l 327)).1)).setCell ⟨w.heap.size, 3, none⟩ (.bool true)).setCell ⟨w.heap.size, 4, none⟩ (.bool (wareT (rd l 327)).2.2.1)).setCell ⟨w.heap.size, 5, none⟩ (.bool (wareT (rd l 327)).2.2.2.1)).setCell ⟨w.heap.size, 6, none⟩ (.int .i64 (wrap64 (2 * 2 ^ min (rd l 328).toNat 64)))).setCell ⟨w.heap.size, 7, none⟩ (.int .i64 (sizeT (rd l 329)))).setCell ⟨w.heap.size, 8, none⟩ (.int .u8 (rd l 333))).setCell ⟨w.heap.size, 9, none⟩ (.int .u16 (Go.bits .or .u16 (IntKind.u16.wrap (IntKind.u16.wrap (rd l 334) * 256)) (IntKind.u16.wrap (rd l 335))))).setCell ⟨w.heap.size + 1, 0, none⟩ (.int .i64 0)).heap[w.heap.size + 1]? = some (.cells #[.int .i64 0] 26 (0, 0)) := blk_put (blk_far (blk_far (blk_far (blk_far (blk_far (blk_far (blk_far (blk_far (blk_far (blk_far (blk_far q1 (by simp; omega) _) (by simp) _) (by simp) _) (by simp) _) (by simp) _) (by simp) _) (by simp) _) (by simp) _) (by simp) _) (by simp) _) (by simp) _) 0 _ rfl
        have m2 : Below w.heap.size w ((((((((((((W5.setCell ⟨gx, 9, none⟩ (.int .u16 (Go.bits .or .u16 (IntKind.u16.wrap (IntKind.u16.wrap (rd l 334) * 256)) (IntKind.u16.wrap (rd l 335))))).setCell ⟨w.heap.size, 0, none⟩ (.string (strOfNums ((l.take (308 + titleN l)).drop 308)))).setCell ⟨w.heap.size, 1, none⟩ (.int .u8 (rd l 327))).setCell ⟨w.heap.size, 2, none⟩ (.int .i64 (wareT (rd l 327)).1)).setCell ⟨w.heap.size, 3, none⟩ (.bool true)).setCell ⟨w.heap.size, 4, none⟩ (.bool (wareT (rd l 327)).2.2.1)).setCell ⟨w.heap.size, 5, none⟩ (.bool (wareT (rd l 327)).2.2.2.1)).setCell ⟨w.heap.size, 6, none⟩ (.int .i64 (wrap64 (2 * 2 ^ min (rd l 328).toNat 64)))).setCell ⟨w.heap.size, 7, none⟩ (.int .i64 (sizeT (rd l 329)))).setCell ⟨w.heap.size, 8, none⟩ (.int .u8 (rd l 333))).setCell ⟨w.heap.size, 9, none⟩ (.int .u16 (Go.bits .or .u16 (IntKind.u16.wrap (IntKind.u16.wrap (rd l 334) * 256)) (IntKind.u16.wrap (rd l 335))))).setCell ⟨w.heap.size + 1, 0, none⟩ (.int .i64 0)) := below_set (below_set (below_set (below_set (below_set (below_set (below_set (below_set (below_set (below_set (below_set (below_set q2 (by omega)) (Nat.le_refl _)) (Nat.le_refl _)) (Nat.le_refl _)) (Nat.le_refl _)) (Nat.le_refl _)) (Nat.le_refl _)) (Nat.le_refl _)) (Nat.le_refl _)) (Nat.le_refl _)) (Nat.le_refl _)) (Nat.le_succ _)
        generalize ((((((((((((W5.setCell ⟨gx, 9, none⟩ (.int .u16 (Go.bits .or .u16 (IntKind.u16.wrap (IntKind.u16.wrap (rd l 334) * 256)) (IntKind.u16.wrap (rd l 335))))).setCell ⟨w.heap.size, 0, none⟩ (.string (strOfNums ((l.take (308 + titleN l)).drop 308)))).setCell ⟨w.heap.size, 1, none⟩ (.int .u8 (rd l 327))).setCell ⟨w.heap.size, 2, none⟩ (.int .i64 (wareT (rd l 327)).1)).setCell ⟨w.heap.size, 3, none⟩ (.bool true)).setCell ⟨w.heap.size, 4, none⟩ (.bool (wareT (rd l 327)).2.2.1)).setCell ⟨w.heap.size, 5, none⟩ (.bool (wareT (rd l 327)).2.2.2.1)).setCell ⟨w.heap.size, 6, none⟩ (.int .i64 (wrap64 (2 * 2 ^ min (rd l 328).toNat 64)))).setCell ⟨w.heap.size, 7, none⟩ (.int .i64 (sizeT (rd l 329)))).setCell ⟨w.heap.size, 8, none⟩ (.int .u8 (rd l 333))).setCell ⟨w.heap.size, 9, none⟩ (.int .u16 (Go.bits .or .u16 (IntKind.u16.wrap (IntKind.u16.wrap (rd l 334) * 256)) (IntKind.u16.wrap (rd l 335))))).setCell ⟨w.heap.size + 1, 0, none⟩ (.int .i64 0)) = Y at m0 m1 m2 ⊢
        clear p q0 q1 q2 fx fh fe hne hne1 hne2 hne3 e0 x0 x1 x2 x3 x4 x5 x6 x7 x8 x9 y0 y1 y2 y3 y4 y5 y6 y7 y8 y9
        have u0 : Y.cell? ⟨w.heap.size, 0, none⟩ = some (.string (strOfNums ((l.take (308 + titleN l)).drop 308))) := (blk_cell m0 0).trans rfl
        have u1 : Y.cell? ⟨w.heap.size, 1, none⟩ = some (.int .u8 (rd l 327)) := (blk_cell m0 1).trans rfl
        have u2 : Y.cell? ⟨w.heap.size, 2, none⟩ = some (.int .i64 (wareT (rd l 327)).1) := (blk_cell m0 2).trans rfl
        have u3 : Y.cell? ⟨w.heap.size, 3, none⟩ = some (.bool true) := (blk_cell m0 3).trans rfl
        have u4 : Y.cell? ⟨w.heap.size, 4, none⟩ = some (.bool (wareT (rd l 327)).2.2.1) := (blk_cell m0 4).trans rfl
        have u5 : Y.cell? ⟨w.heap.size, 5, none⟩ = some (.bool (wareT (rd l 327)).2.2.2.1) := (blk_cell m0 5).trans rfl
        have u6 : Y.cell? ⟨w.heap.size, 6, none⟩ = some (.int .i64 (wrap64 (2 * 2 ^ min (rd l 328).toNat 64))) := (blk_cell m0 6).trans rfl
        have u7 : Y.cell? ⟨w.heap.size, 7, none⟩ = some (.int .i64 (sizeT (rd l 329))) := (blk_cell m0 7).trans rfl
        have u8 : Y.cell? ⟨w.heap.size, 8, none⟩ = some (.int .u8 (rd l 333)) := (blk_cell m0 8).trans rfl
        have u9 : Y.cell? ⟨w.heap.size, 9, none⟩ = some (.int .u16 (Go.bits .or .u16 (IntKind.u16.wrap (IntKind.u16.wrap (rd l 334) * 256)) (IntKind.u16.wrap (rd l 335)))) := (blk_cell m0 9).trans rfl
        have v0 : Y.cell? ⟨w.heap.size + 1, 0, none⟩ = some (.int .i64 0) := (blk_cell m1 0).trans rfl
        refine leaves_cons (f := 53) (args := #[.pointer (some ⟨w.heap.size + 1, 0, none⟩)]) (by simp) (by simp [go_sem]) ?_
        refine (parse_idle ⟨w.heap.size + 1, 0, none⟩ _).mono ?_
        rintro e u' w'' ⟨rfl, rfl, rfl⟩
        simp [Leaves, settle, results, Try.results28, go_sem, ramT, hram, u0, u1, u2, u3, u4, u5, u6, u7, u8, u9, v0, m2]
      | false =>
        rw [hram] at a3
        go_wp2_with fail
        have p : W.heap[gx]? = some (.cells #[.string ⟨#[]⟩, .int .u8 (rd l 327), .int .i64 (wareT (rd l 327)).1, .bool false, .bool (wareT (rd l 327)).2.2.1, .bool (wareT (rd l 327)).2.2.2.1, .int .i64 0, .int .i64 0, .int .u8 0, .int .u16 0] 30 (0, 0)) := by have q := F3.out; rw [hram] at q; exact q
        have p := blk_put (cs' := #[.string (strOfNums ((l.take (308 + titleN l)).drop 308)), .int .u8 (rd l 327), .int .i64 (wareT (rd l 327)).1, .bool false, .bool (wareT (rd l 327)).2.2.1, .bool (wareT (rd l 327)).2.2.2.1, .int .i64 0, .int .i64 0, .int .u8 0, .int .u16 0]) p 0 (.string (strOfNums ((l.take (308 + titleN l)).drop 308))) rfl
        have p := blk_put (cs' := #[.string (strOfNums ((l.take (308 + titleN l)).drop 308)), .int .u8 (rd l 327), .int .i64 (wareT (rd l 327)).1, .bool false, .bool (wareT (rd l 327)).2.2.1, .bool (wareT (rd l 327)).2.2.2.1, .int .i64 (wrap64 (2 * 2 ^ min (rd l 328).toNat 64)), .int .i64 0, .int .u8 0, .int .u16 0]) p 6 (.int .i64 (wrap64 (2 * 2 ^ min (rd l 328).toNat 64))) rfl
        have p := blk_put (cs' := #[.string (strOfNums ((l.take (308 + titleN l)).drop 308)), .int .u8 (rd l 327), .int .i64 (wareT (rd l 327)).1, .bool false, .bool (wareT (rd l 327)).2.2.1, .bool (wareT (rd l 327)).2.2.2.1, .int .i64 (wrap64 (2 * 2 ^ min (rd l 328).toNat 64)), .int .i64 0, .int .u8 (rd l 333), .int .u16 0]) p 8 (.int .u8 (rd l 333)) rfl
        have q0 : (((W.setCell ⟨gx, 0, none⟩ (.string (strOfNums ((l.take (308 + titleN l)).drop 308)))).setCell ⟨gx, 6, none⟩ (.int .i64 (wrap64 (2 * 2 ^ min (rd l 328).toNat 64)))).setCell ⟨gx, 8, none⟩ (.int .u8 (rd l 333))).heap[w.heap.size]? = some (.cells #[.string ⟨#[]⟩, .int .u8 0, .int .i64 0, .bool false, .bool false, .bool false, .int .i64 0, .int .i64 0, .int .u8 0, .int .u16 0] 30 (0, 0)) := (blk_far (blk_far (blk_far F0.out (by simp; omega) _) (by simp; omega) _) (by simp; omega) _)
        have q1 : (((W.setCell ⟨gx, 0, none⟩ (.string (strOfNums ((l.take (308 + titleN l)).drop 308)))).setCell ⟨gx, 6, none⟩ (.int .i64 (wrap64 (2 * 2 ^ min (rd l 328).toNat 64)))).setCell ⟨gx, 8, none⟩ (.int .u8 (rd l 333))).heap[w.heap.size + 1]? = some (.cells #[.int .i64 0] 26 (0, 0)) := (blk_far (blk_far (blk_far F1.out (by simp; omega) _) (by simp; omega) _) (by simp; omega) _)
        have q2 : Below w.heap.size w (((W.setCell ⟨gx, 0, none⟩ (.string (strOfNums ((l.take (308 + titleN l)).drop 308)))).setCell ⟨gx, 6, none⟩ (.int .i64 (wrap64 (2 * 2 ^ min (rd l 328).toNat 64)))).setCell ⟨gx, 8, none⟩ (.int .u8 (rd l 333))) := (below_set (below_set (below_set F2.out (by omega)) (by omega)) (by omega))
        clear a0 a1 a2 a3 a4 a5 a6 a7 a8 a9 c333 hcv KD fz
        generalize (((W.setCell ⟨gx, 0, none⟩ (.string (strOfNums ((l.take (308 + titleN l)).drop 308)))).setCell ⟨gx, 6, none⟩ (.int .i64 (wrap64 (2 * 2 ^ min (rd l 328).toNat 64)))).setCell ⟨gx, 8, none⟩ (.int .u8 (rd l 333))) = W4 at p q0 q1 q2 ⊢
        obtain ⟨ad', ea, c334⟩ := Kd.at_int (Kd.C_below HR.out q2) 334 (by omega) (by omega)
        obtain rfl := Option.some.inj ea
        clear ea
        replace c334 : W4.cell? ⟨ad.block, ad.off + 334, none⟩ = some (.int .u8 (rd l 334)) := c334
        have c334d : W4.drew.cell? ⟨ad.block, ad.off + 334, none⟩ = some (.int .u8 (rd l 334)) := (World.cell?_drew _ _).trans c334
        have p334 : (334 : Int) < l.length := Int.lt_of_lt_of_le (by decide) hli
        obtain ⟨ad', ea, c335⟩ := Kd.at_int (Kd.C_below HR.out q2) 335 (by omega) (by omega)
        obtain rfl := Option.some.inj ea
        clear ea
        replace c335 : W4.cell? ⟨ad.block, ad.off + 335, none⟩ = some (.int .u8 (rd l 335)) := c335
        have c335d : W4.drew.cell? ⟨ad.block, ad.off + 335, none⟩ = some (.int .u8 (rd l 335)) := (World.cell?_drew _ _).trans c335
        have p335 : (335 : Int) < l.length := Int.lt_of_lt_of_le (by decide) hli
        go_still_tail 11, (by kernel_rfl)
        change wpList _ _ _ _ _ W4.drew
        have p := blk_drew p
        have q0 := blk_drew q0
        have q1 := blk_drew q1
        have q2 := below_drew1 q2
        generalize W4.drew = W5 at p q0 q1 q2 ⊢
        clear c334 c335 c334d c335d p334 p335
        have x0 : W5.cell? ⟨gx, 0, none⟩ = some (.string (strOfNums ((l.take (308 + titleN l)).drop 308))) := (blk_cell p 0).trans rfl
        have x1 : W5.cell? ⟨gx, 1, none⟩ = some (.int .u8 (rd l 327)) := (blk_cell p 1).trans rfl
        have x2 : W5.cell? ⟨gx, 2, none⟩ = some (.int .i64 (wareT (rd l 327)).1) := (blk_cell p 2).trans rfl
        have x3 : W5.cell? ⟨gx, 3, none⟩ = some (.bool false) := (blk_cell p 3).trans rfl
        have x4 : W5.cell? ⟨gx, 4, none⟩ = some (.bool (wareT (rd l 327)).2.2.1) := (blk_cell p 4).trans rfl
        have x5 : W5.cell? ⟨gx, 5, none⟩ = some (.bool (wareT (rd l 327)).2.2.2.1) := (blk_cell p 5).trans rfl
        have x6 : W5.cell? ⟨gx, 6, none⟩ = some (.int .i64 (wrap64 (2 * 2 ^ min (rd l 328).toNat 64))) := (blk_cell p 6).trans rfl
        have x7 : W5.cell? ⟨gx, 7, none⟩ = some (.int .i64 0) := (blk_cell p 7).trans rfl
        have x8 : W5.cell? ⟨gx, 8, none⟩ = some (.int .u8 (rd l 333)) := (blk_cell p 8).trans rfl
        have x9 : W5.cell? ⟨gx, 9, none⟩ = some (.int .u16 0) := (blk_cell p 9).trans rfl
        have y0 : W5.cell? ⟨w.heap.size, 0, none⟩ = some (.string ⟨#[]⟩) := (blk_cell q0 0).trans rfl
        have y1 : W5.cell? ⟨w.heap.size, 1, none⟩ = some (.int .u8 0) := (blk_cell q0 1).trans rfl
        have y2 : W5.cell? ⟨w.heap.size, 2, none⟩ = some (.int .i64 0) := (blk_cell q0 2).trans rfl
        have y3 : W5.cell? ⟨w.heap.size, 3, none⟩ = some (.bool false) := (blk_cell q0 3).trans rfl
        have y4 : W5.cell? ⟨w.heap.size, 4, none⟩ = some (.bool false) := (blk_cell q0 4).trans rfl
        have y5 : W5.cell? ⟨w.heap.size, 5, none⟩ = some (.bool false) := (blk_cell q0 5).trans rfl
        have y6 : W5.cell? ⟨w.heap.size, 6, none⟩ = some (.int .i64 0) := (blk_cell q0 6).trans rfl
        have y7 : W5.cell? ⟨w.heap.size, 7, none⟩ = some (.int .i64 0) := (blk_cell q0 7).trans rfl
        have y8 : W5.cell? ⟨w.heap.size, 8, none⟩ = some (.int .u8 0) := (blk_cell q0 8).trans rfl
        have y9 : W5.cell? ⟨w.heap.size, 9, none⟩ = some (.int .u16 0) := (blk_cell q0 9).trans rfl
        have e0 : W5.cell? ⟨w.heap.size + 1, 0, none⟩ = some (.int .i64 0) := (blk_cell q1 0).trans rfl
        have fx := fun i => blk_frozen p i
        have fh := fun i => blk_frozen q0 i
        have fe := fun i => blk_frozen q1 i
        have hne : ¬ w.heap.size = gx := by omega
        have hne1 : ¬ w.heap.size + 1 = gx := by omega
        have hne2 : ¬ gx = w.heap.size := by omega
        have hne3 : ¬ gx = w.heap.size + 1 := by omega
        go_wp2_with fail
        have m0 : (W5.setCell ⟨gx, 9, none⟩ (.int .u16 (Go.bits .or .u16 (IntKind.u16.wrap (IntKind.u16.wrap (rd l 334) * 256)) (IntKind.u16.wrap (rd l 335))))).heap[w.heap.size]? = some (.cells #[.string ⟨#[]⟩, .int .u8 0, .int .i64 0, .bool false, .bool false, .bool false, .int .i64 0, .int .i64 0, .int .u8 0, .int .u16 0] 30 (0, 0)) := blk_far q0 (by simp; omega) _
        have m0 := blk_put (cs' := #[.string (strOfNums ((l.take (308 + titleN l)).drop 308)), .int .u8 0, .int .i64 0, .bool false, .bool false, .bool false, .int .i64 0, .int .i64 0, .int .u8 0, .int .u16 0]) m0 0 (.string (strOfNums ((l.take (308 + titleN l)).drop 308))) rfl
        have m0 := blk_put (cs' := #[.string (strOfNums ((l.take (308 + titleN l)).drop 308)), .int .u8 (rd l 327), .int .i64 0, .bool false, .bool false, .bool false, .int .i64 0, .int .i64 0, .int .u8 0, .int .u16 0]) m0 1 (.int .u8 (rd l 327)) rfl
        have m0 := blk_put (cs' := #[.string (strOfNums ((l.take (308 + titleN l)).drop 308)), .int .u8 (rd l 327), .int .i64 (wareT (rd l 327)).1, .bool false, .bool false, .bool false, .int .i64 0, .int .i64 0, .int .u8 0, .int .u16 0]) m0 2 (.int .i64 (wareT (rd l 327)).1) rfl
        have m0 := blk_put (cs' := #[.string (strOfNums ((l.take (308 + titleN l)).drop 308)), .int .u8 (rd l 327), .int .i64 (wareT (rd l 327)).1, .bool false, .bool false, .bool false, .int .i64 0, .int .i64 0, .int .u8 0, .int .u16 0]) m0 3 (.bool false) rfl
        have m0 := blk_put (cs' := #[.string (strOfNums ((l.take (308 + titleN l)).drop 308)), .int .u8 (rd l 327), .int .i64 (wareT (rd l 327)).1, .bool false, .bool (wareT (rd l 327)).2.2.1, .bool false, .int .i64 0, .int .i64 0, .int .u8 0, .int .u16 0]) m0 4 (.bool (wareT (rd l 327)).2.2.1) rfl
        have m0 := blk_put (cs' := #[.string (strOfNums ((l.take (308 + titleN l)).drop 308)), .int .u8 (rd l 327), .int .i64 (wareT (rd l 327)).1, .bool false, .bool (wareT (rd l 327)).2.2.1, .bool (wareT (rd l 327)).2.2.2.1, .int .i64 0, .int .i64 0, .int .u8 0, .int .u16 0]) m0 5 (.bool (wareT (rd l 327)).2.2.2.1) rfl
        have m0 := blk_put (cs' := #[.string (strOfNums ((l.take (308 + titleN l)).drop 308)), .int .u8 (rd l 327), .int .i64 (wareT (rd l 327)).1, .bool false, .bool (wareT (rd l 327)).2.2.1, .bool (wareT (rd l 327)).2.2.2.1, .int .i64 (wrap64 (2 * 2 ^ min (rd l 328).toNat 64)), .int .i64 0, .int .u8 0, .int .u16 0]) m0 6 (.int .i64 (wrap64 (2 * 2 ^ min (rd l 328).toNat 64))) rfl
        have m0 := blk_put (cs' := #[.string (strOfNums ((l.take (308 + titleN l)).drop 308)), .int .u8 (rd l 327), .int .i64 (wareT (rd l 327)).1, .bool false, .bool (wareT (rd l 327)).2.2.1, .bool (wareT (rd l 327)).2.2.2.1, .int .i64 (wrap64 (2 * 2 ^ min (rd l 328).toNat 64)), .int .i64 0, .int .u8 0, .int .u16 0]) m0 7 (.int .i64 0) rfl
        have m0 := blk_put (cs' := #[.string (strOfNums ((l.take (308 + titleN l)).drop 308)), .int .u8 (rd l 327), .int .i64 (wareT (rd l 327)).1, .bool false, .bool (wareT (rd l 327)).2.2.1, .bool (wareT (rd l 327)).2.2.2.1, .int .i64 (wrap64 (2 * 2 ^ min (rd l 328).toNat 64)), .int .i64 0, .int .u8 (rd l 333), .int .u16 0]) m0 8 (.int .u8 (rd l 333)) rfl
        have m0 := blk_put (cs' := #[.string (strOfNums ((l.take (308 + titleN l)).drop 308)), .int .u8 (rd l 327), .int .i64 (wareT (rd l 327)).1, .bool false, .bool (wareT (rd l 327)).2.2.1, .bool (wareT (rd l 327)).2.2.2.1, .int .i64 (wrap64 (2 * 2 ^ min (rd l 328).toNat 64)), .int .i64 0, .int .u8 (rd l 333), .int .u16 (Go.bits .or .u16 (IntKind.u16.wrap (IntKind.u16.wrap (rd l 334) * 256)) (IntKind.u16.wrap (rd l 335)))]) m0 9 (.int .u16 (Go.bits .or .u16 (IntKind.u16.wrap (IntKind.u16.wrap (rd l 334) * 256)) (IntKind.u16.wrap (rd l 335)))) rfl
        have m0 : ((((((((((((W5.setCell ⟨gx, 9, none⟩ (.int .u16 (Go.bits .or .u16 (IntKind.u16.wrap (IntKind.u16.wrap (rd l 334) * 256)) (IntKind.u16.wrap (rd l 335))))).setCell ⟨w.heap.size, 0, none⟩ (.string (strOfNums ((l.take (308 + titleN l)).drop 308)))).setCell ⟨w.heap.size, 1, none⟩ (.int .u8 (rd l 327))).setCell ⟨w.heap.size, 2, none⟩ (.int .i64 (wareT (rd l 327)).1)).setCell ⟨w.heap.size, 3, none⟩ (.bool false)).setCell ⟨w.heap.size, 4, none⟩ (.bool (wareT (rd l 327)).2.2.1)).setCell ⟨w.heap.size, 5, none⟩ (.bool (wareT (rd l 327)).2.2.2.1)).setCell ⟨w.heap.size, 6, none⟩ (.int .i64 (wrap64 (2 * 2 ^ min (rd l 328).toNat 64)))).setCell ⟨w.heap.size, 7, none⟩ (.int .i64 0)).setCell ⟨w.heap.size, 8, none⟩ (.int .u8 (rd l 333))).setCell ⟨w.heap.size, 9, none⟩ (.int .u16 (Go.bits .or .u16 (IntKind.u16.wrap (IntKind.u16.wrap (rd l 334) * 256)) (IntKind.u16.wrap (rd l 335))))).setCell ⟨w.heap.size + 1, 0, none⟩ (.int .i64 0)).heap[w.heap.size]? = some (.cells #[.string (strOfNums ((l.take (308 + titleN l)).drop 308)), .int .u8 (rd l 327), .int .i64 (wareT (rd l 327)).1, .bool false, .bool (wareT (rd l 327)).2.2.1, .bool (wareT (rd l 327)).2.2.2.1, .int .i64 (wrap64 (2 * 2 ^ min (rd l 328).toNat 64)), .int .i64 0, .int .u8 (rd l 333), .int .u16 (Go.bits .or .u16 (IntKind.u16.wrap (IntKind.u16.wrap (rd l 334) * 256)) (IntKind.u16.wrap (rd l 335)))] 30 (0, 0)) := blk_far m0 (by simp) _
        have m1 : ((((((((((((W5.setCell ⟨gx, 9, none⟩ (.int .u16 (Go.bits .or .u16 (IntKind.u16.wrap (IntKind.u16.wrap (rd l 334) * 256)) (IntKind.u16.wrap (rd l 335))))).setCell ⟨w.heap.size, 0, none⟩ (.string (strOfNums ((l.take (308 + titleN l)).drop 308)))).setCell ⟨w.heap.size, 1, none⟩ (.int .u8 (rd l 327))).setCell ⟨w.heap.size, 2, none⟩ (.int .i64 (wareT (rd l 327)).1)).setCell ⟨w.heap.size, 3, none⟩ (.bool false)).setCell ⟨w.heap.size, 4, none⟩ (.bool (wareT (rd l 327)).2.2.1)).setCell ⟨w.heap.size, 5, none⟩ (.bool (wareT (rd l 327)).2.2.2.1)).setCell ⟨w.heap.size, 6, none⟩ (.int .i64 (wrap64 (2 * 2 ^ min (rd l 328).toNat 64)))).setCell ⟨w.heap.size, 7, none⟩ (.int .i64 0)).setCell ⟨w.heap.size, 8, none⟩ (.int .u8 (rd l 333))).setCell ⟨w.heap.size, 9, none⟩ (.int .u16 (Go.bits .or .u16 (IntKind.u16.wrap (IntKind.u16.wrap (rd l 334) * 256)) (IntKind.u16.wrap (rd l 335))))).setCell ⟨w.heap.size + 1, 0, none⟩ (.int .i64 0)).heap[w.heap.size + 1]? = some (.cells #[.int .i64 0] 26 (0, 0)) := blk_put (blk_far (blk_far (blk_far (blk_far (blk_far (blk_far (blk_far (blk_far (blk_far (blk_far (blk_far q1 (by simp; omega) _) (by simp) _) (by simp) _) (by simp) _) (by simp) _) (by simp) _) (by simp) _) (by simp) _) (by simp) _) (by simp) _) (by simp) _) 0 _ rfl
        have m2 : Below w.heap.size w ((((((((((((W5.setCell ⟨gx, 9, none⟩ (.int .u16 (Go.bits .or .u16 (IntKind.u16.wrap (IntKind.u16.wrap (rd l 334) * 256)) (IntKind.u16.wrap (rd l 335))))).setCell ⟨w.heap.size, 0, none⟩ (.string (strOfNums ((l.take (308 + titleN l)).drop 308)))).setCell ⟨w.heap.size, 1, none⟩ (.int .u8 (rd l 327))).setCell ⟨w.heap.size, 2, none⟩ (.int .i64 (wareT (rd l 327)).1)).setCell ⟨w.heap.size, 3, none⟩ (.bool false)).setCell ⟨w.heap.size, 4, none⟩ (.bool (wareT (rd l 327)).2.2.1)).setCell ⟨w.heap.size, 5, none⟩ (.bool (wareT (rd l 327)).2.2.2.1)).setCell ⟨w.heap.size, 6, none⟩ (.int .i64 (wrap64 (2 * 2 ^ min (rd l 328).toNat 64)))).setCell ⟨w.heap.size, 7, none⟩ (.int .i64 0)).setCell ⟨w.heap.size, 8, none⟩ (.int .u8 (rd l 333))).setCell ⟨w.heap.size, 9, none⟩ (.int .u16 (Go.bits .or .u16 (IntKind.u16.wrap (IntKind.u16.wrap (rd l 334) * 256)) (IntKind.u16.wrap (rd l 335))))).setCell ⟨w.heap.size + 1, 0, none⟩ (.int .i64 0)) := below_set (below_set (below_set (below_set (below_set (below_set (below_set (below_set (below_set (below_set (below_set (below_set q2 (by omega)) (Nat.le_refl _)) (Nat.le_refl _)) (Nat.le_refl _)) (Nat.le_refl _)) (Nat.le_refl _)) (Nat.le_refl _)) (Nat.le_refl _)) (Nat.le_refl _)) (Nat.le_refl _)) (Nat.le_refl _)) (Nat.le_succ _)
        generalize ((((((((((((W5.setCell ⟨gx, 9, none⟩ (.int .u16 (Go.bits .or .u16 (IntKind.u16.wrap (IntKind.u16.wrap (rd l 334) * 256)) (IntKind.u16.wrap (rd l 335))))).setCell ⟨w.heap.size, 0, none⟩ (.string (strOfNums ((l.take (308 + titleN l)).drop 308)))).setCell ⟨w.heap.size, 1, none⟩ (.int .u8 (rd l 327))).setCell ⟨w.heap.size, 2, none⟩ (.int .i64 (wareT (rd l 327)).1)).setCell ⟨w.heap.size, 3, none⟩ (.bool false)).setCell ⟨w.heap.size, 4, none⟩ (.bool (wareT (rd l 327)).2.2.1)).setCell ⟨w.heap.size, 5, none⟩ (.bool (wareT (rd l 327)).2.2.2.1)).setCell ⟨w.heap.size, 6, none⟩ (.int .i64 (wrap64 (2 * 2 ^ min (rd l 328).toNat 64)))).setCell ⟨w.heap.size, 7, none⟩ (.int .i64 0)).setCell ⟨w.heap.size, 8, none⟩ (.int .u8 (rd l 333))).setCell ⟨w.heap.size, 9, none⟩ (.int .u16 (Go.bits .or .u16 (IntKind.u16.wrap (IntKind.u16.wrap (rd l 334) * 256)) (IntKind.u16.wrap (rd l 335))))).setCell ⟨w.heap.size + 1, 0, none⟩ (.int .i64 0)) = Y at m0 m1 m2 ⊢
        clear p q0 q1 q2 fx fh fe hne hne1 hne2 hne3 e0 x0 x1 x2 x3 x4 x5 x6 x7 x8 x9 y0 y1 y2 y3 y4 y5 y6 y7 y8 y9
        have u0 : Y.cell? ⟨w.heap.size, 0, none⟩ = some (.string (strOfNums ((l.take (308 + titleN l)).drop 308))) := (blk_cell m0 0).trans rfl
        have u1 : Y.cell? ⟨w.heap.size, 1, none⟩ = some (.int .u8 (rd l 327)) := (blk_cell m0 1).trans rfl
        have u2 : Y.cell? ⟨w.heap.size, 2, none⟩ = some (.int .i64 (wareT (rd l 327)).1) := (blk_cell m0 2).trans rfl
        have u3 : Y.cell? ⟨w.heap.size, 3, none⟩ = some (.bool false) := (blk_cell m0 3).trans rfl
        have u4 : Y.cell? ⟨w.heap.size, 4, none⟩ = some (.bool (wareT (rd l 327)).2.2.1) := (blk_cell m0 4).trans rfl
        have u5 : Y.cell? ⟨w.heap.size, 5, none⟩ = some (.bool (wareT (rd l 327)).2.2.2.1) := (blk_cell m0 5).trans rfl
        have u6 : Y.cell? ⟨w.heap.size, 6, none⟩ = some (.int .i64 (wrap64 (2 * 2 ^ min (rd l 328).toNat 64))) := (blk_cell m0 6).trans rfl
        have u7 : Y.cell? ⟨w.heap.size, 7, none⟩ = some (.int .i64 0) := (blk_cell m0 7).trans rfl
        have u8 : Y.cell? ⟨w.heap.size, 8, none⟩ = some (.int .u8 (rd l 333)) := (blk_cell m0 8).trans rfl
        have u9 : Y.cell? ⟨w.heap.size, 9, none⟩ = some (.int .u16 (Go.bits .or .u16 (IntKind.u16.wrap (IntKind.u16.wrap (rd l 334) * 256)) (IntKind.u16.wrap (rd l 335)))) := (blk_cell m0 9).trans rfl
        have v0 : Y.cell? ⟨w.heap.size + 1, 0, none⟩ = some (.int .i64 0) := (blk_cell m1 0).trans rfl
        refine leaves_cons (f := 53) (args := #[.pointer (some ⟨w.heap.size + 1, 0, none⟩)]) (by simp) (by simp [go_sem]) ?_
        refine (parse_idle ⟨w.heap.size + 1, 0, none⟩ _).mono ?_
        rintro e u' w'' ⟨rfl, rfl, rfl⟩
        simp [Leaves, settle, results, Try.results28, go_sem, ramT, hram, u0, u1, u2, u3, u4, u5, u6, u7, u8, u9, v0, m2]
end Go.Proofs.Ytmjjojbedllmgaa.Hand
end
section
namespace Go.Proofs.Ytmjjojbedllmgaa.Hand
open Go.RowKit
open Go.Proofs.Ytmjjojbedllmgaa.G
open Go.Proofs.YtmjjojbedllmgaaW.PrintWords Go.Proofs.YtmjjojbedllmgaaW.PrintLast Go.Proofs.YtmjjojbedllmgaaW.PrintMore
set_option linter.unusedVariables false
set_option linter.unusedSimpArgs false
set_option maxRecDepth 100000 in
set_option maxHeartbeats 4000000 in
theorem hparse_short (A : Option Addr) (c : Nat) (l : List Int) (hl : ¬ (336 : Int) ≤ l.length) (w : World) :
    Calls Try.prog 28 #[.slice A l.length c] w fun e' w' => e' = .returned (.tuple #[.agg #[.string ⟨#[]⟩, .int .u8 0, .int .i64 0, .bool false, .bool false, .bool false, .int .i64 0, .int .i64 0, .int .u8 0, .int .u16 0], .int .i64 2]) ∧ Below w.heap.size w w' := by
  have hmf : ∀ (fn : Fn) (first cap : Array Value) (w : World), (Instr.makeFunc fn first cap).run Try.prog w = .ok (.func fn first cap) w := fun _ _ _ _ => rfl
  go_enter_defers Try.func28, Try.ntmps28
  go_wp2_with fail
  have z0 := blk_alloc (blk_new w (.cells #[.string ⟨#[]⟩, .int .u8 0, .int .i64 0, .bool false, .bool false, .bool false, .int .i64 0, .int .i64 0, .int .u8 0, .int .u16 0] 30)) (.cells #[.int .i64 0] 26)
  have z1 := heap_alloc_new (w.alloc (.cells #[.string ⟨#[]⟩, .int .u8 0, .int .i64 0, .bool false, .bool false, .bool false, .int .i64 0, .int .i64 0, .int .u8 0, .int .u16 0] 30)) (.cells #[.int .i64 0] 26)
  rw [show (w.alloc (.cells #[.string ⟨#[]⟩, .int .u8 0, .int .i64 0, .bool false, .bool false, .bool false, .int .i64 0, .int .i64 0, .int .u8 0, .int .u16 0] 30)).heap.size = w.heap.size + 1 by simp] at z1
  have z2 := below_alloc (below_alloc (Below.refl w.heap.size w) (.cells #[.string ⟨#[]⟩, .int .u8 0, .int .i64 0, .bool false, .bool false, .bool false, .int .i64 0, .int .i64 0, .int .u8 0, .int .u16 0] 30)) (.cells #[.int .i64 0] 26)
  generalize (w.alloc (.cells #[.string ⟨#[]⟩, .int .u8 0, .int .i64 0, .bool false, .bool false, .bool false, .int .i64 0, .int .i64 0, .int .u8 0, .int .u16 0] 30)).alloc (.cells #[.int .i64 0] 26) = W0 at z0 z1 z2 ⊢
  refine (need_no 2 _).mono ?_
  rintro e' w' ⟨rfl, hw⟩
  replace hw := hw.symm
  subst hw
  refine leaves_cons (f := 53) (args := #[.pointer (some ⟨w.heap.size + 1, 0, none⟩)]) (by simp) (by simp [go_sem]) ?_
  refine (parse_panicking ⟨w.heap.size + 1, 0, none⟩ 0 2 [] _ ((blk_cell (z1) 0).trans rfl) (blk_frozen (z1) 0)).mono ?_
  rintro e u' w'' ⟨rfl, rfl, rfl⟩
  have m0 : ((W0).setCell ⟨w.heap.size + 1, 0, none⟩ (.int .i64 2)).heap[w.heap.size]? = some (.cells #[.string ⟨#[]⟩, .int .u8 0, .int .i64 0, .bool false, .bool false, .bool false, .int .i64 0, .int .i64 0, .int .u8 0, .int .u16 0] 30 (0, 0)) := blk_far (z0) (by simp) _
  have m1 : ((W0).setCell ⟨w.heap.size + 1, 0, none⟩ (.int .i64 2)).heap[w.heap.size + 1]? = some (.cells #[.int .i64 2] 26 (0, 0)) := blk_put (z1) 0 _ rfl
  have m2 : Below w.heap.size w ((W0).setCell ⟨w.heap.size + 1, 0, none⟩ (.int .i64 2)) := below_set (z2) (Nat.le_succ _)
  generalize ((W0).setCell ⟨w.heap.size + 1, 0, none⟩ (.int .i64 2)) = Y at m0 m1 m2 ⊢
  have u0 : Y.cell? ⟨w.heap.size, 0, none⟩ = some (.string ⟨#[]⟩) := (blk_cell m0 0).trans rfl
  have u1 : Y.cell? ⟨w.heap.size, 1, none⟩ = some (.int .u8 0) := (blk_cell m0 1).trans rfl
  have u2 : Y.cell? ⟨w.heap.size, 2, none⟩ = some (.int .i64 0) := (blk_cell m0 2).trans rfl
  have u3 : Y.cell? ⟨w.heap.size, 3, none⟩ = some (.bool false) := (blk_cell m0 3).trans rfl
  have u4 : Y.cell? ⟨w.heap.size, 4, none⟩ = some (.bool false) := (blk_cell m0 4).trans rfl
  have u5 : Y.cell? ⟨w.heap.size, 5, none⟩ = some (.bool false) := (blk_cell m0 5).trans rfl
  have u6 : Y.cell? ⟨w.heap.size, 6, none⟩ = some (.int .i64 0) := (blk_cell m0 6).trans rfl
  have u7 : Y.cell? ⟨w.heap.size, 7, none⟩ = some (.int .i64 0) := (blk_cell m0 7).trans rfl
  have u8 : Y.cell? ⟨w.heap.size, 8, none⟩ = some (.int .u8 0) := (blk_cell m0 8).trans rfl
  have u9 : Y.cell? ⟨w.heap.size, 9, none⟩ = some (.int .u16 0) := (blk_cell m0 9).trans rfl
  have v0 : Y.cell? ⟨w.heap.size + 1, 0, none⟩ = some (.int .i64 2) := (blk_cell m1 0).trans rfl
  simp [Leaves, settle, results, Try.results28, go_sem, u0, u1, u2, u3, u4, u5, u6, u7, u8, u9, v0, m2]
def header_Parse.f (l : List Int) : Option (ByteArray × Int × Int × Bool × Bool × Bool × Int × Int × Int × Int × Int) :=
  if (336 : Int) ≤ l.length then
    if 0 ≤ rd l 327 ∧ rd l 327 ≤ 255 ∧ 0 ≤ rd l 328 ∧ 0 ≤ rd l 329 then
      if (wareT (rd l 327)).2.2.2.2 = true then
        if rd l 328 ≤ 8 ∧ rd l 329 ≤ 5 ∧ (l.length : Int) ≤ shl .i64 32768 (rd l 328) then
          if rd l 333 = sumTo l 25 then some ((strOfNums ((l.take (308 + titleN l)).drop 308)), rd l 327, (wareT (rd l 327)).1, (wareT (rd l 327)).2.1, (wareT (rd l 327)).2.2.1, (wareT (rd l 327)).2.2.2.1, wrap64 (2 * 2 ^ min (rd l 328).toNat 64), ramT (wareT (rd l 327)).2.1 (rd l 329), rd l 333, (Go.bits .or .u16 (IntKind.u16.wrap (IntKind.u16.wrap (rd l 334) * 256)) (IntKind.u16.wrap (rd l 335))), 0) else some ((⟨#[]⟩ : ByteArray), 0, 0, false, false, false, 0, 0, 0, 0, 3)
        else some ((⟨#[]⟩ : ByteArray), 0, 0, false, false, false, 0, 0, 0, 0, 5)
      else some ((⟨#[]⟩ : ByteArray), 0, 0, false, false, false, 0, 0, 0, 0, 4)
    else none
  else some ((⟨#[]⟩ : ByteArray), 0, 0, false, false, false, 0, 0, 0, 0, 2)
theorem header_Parse.calls (A0 : Option Addr) (c0 : Nat) (l0 : List Int) (r1 : ByteArray) (r2 : Int) (r3 : Int) (r4 : Bool) (r5 : Bool) (r6 : Bool) (r7 : Int) (r8 : Int) (r9 : Int) (r10 : Int) (r11 : Int) (w : World) (hr0 : Kd.C (Kd.int .u8) w A0 l0.length l0) (hc0 : l0.length ≤ c0) (h : header_Parse.f l0 = some (r1, r2, r3, r4, r5, r6, r7, r8, r9, r10, r11)) :
    Calls Try.prog 28 #[.slice A0 l0.length c0] w fun e w' => e = .returned (.tuple #[.agg #[.string r1, .int .u8 r2, .int .i64 r3, .bool r4, .bool r5, .bool r6, .int .i64 r7, .int .i64 r8, .int .u8 r9, .int .u16 r10], .int .i64 r11]) ∧ Below w.heap.size w w' := by
  unfold header_Parse.f at h
  by_cases hl : (336 : Int) ≤ l0.length
  case neg =>
    rw [if_neg hl] at h
    cases h
    exact hparse_short A0 c0 l0 hl w
  rw [if_pos hl] at h
  by_cases hk : 0 ≤ rd l0 327 ∧ rd l0 327 ≤ 255 ∧ 0 ≤ rd l0 328 ∧ 0 ≤ rd l0 329
  case neg => rw [if_neg hk] at h; cases h
  rw [if_pos hk] at h
  obtain ⟨k1, k2, k3, k4⟩ := hk
  have hn : 336 ≤ l0.length := by omega
  by_cases hok : (wareT (rd l0 327)).2.2.2.2 = true
  case neg =>
    rw [if_neg hok] at h
    cases h
    exact hparse_kind A0 c0 l0 hn w hr0 hc0 ⟨k1, k2⟩ (Bool.eq_false_iff.mpr hok)
  rw [if_pos hok] at h
  by_cases h8 : rd l0 328 ≤ 8
  case neg =>
    rw [if_neg (fun z => h8 z.1)] at h
    cases h
    exact hparse_size_a A0 c0 l0 hn w hr0 hc0 ⟨k1, k2⟩ hok (decide_eq_false h8)
  by_cases h5 : rd l0 329 ≤ 5
  case neg =>
    rw [if_neg (fun z => h5 z.2.1)] at h
    cases h
    exact hparse_size_b A0 c0 l0 hn w hr0 hc0 ⟨k1, k2⟩ hok (decide_eq_true h8) (decide_eq_false h5)
  by_cases hm : (l0.length : Int) ≤ shl .i64 32768 (rd l0 328)
  case neg =>
    rw [if_neg (fun z => hm z.2.2)] at h
    cases h
    exact hparse_size_c A0 c0 l0 hn w hr0 hc0 ⟨k1, k2⟩ hok k3 (decide_eq_true h8) (decide_eq_true h5) (decide_eq_false hm)
  rw [if_pos ⟨h8, h5, hm⟩] at h
  by_cases hs : rd l0 333 = sumTo l0 25
  case neg =>
    rw [if_neg hs] at h
    cases h
    exact hparse_sum A0 c0 l0 hn w hr0 hc0 ⟨k1, k2⟩ hok k3 (decide_eq_true h8) (decide_eq_true h5) (decide_eq_true hm) (beq_eq_false_iff_ne.mpr hs)
  rw [if_pos hs] at h
  cases h
  have q := hparse_ok A0 c0 l0 hn w hr0 hc0 ⟨k1, k2⟩ hok k3 (decide_eq_true h8) (decide_eq_true h5) (decide_eq_true hm) k4 (beq_iff_eq.mpr hs)
  exact q
end Go.Proofs.Ytmjjojbedllmgaa.Hand
end
