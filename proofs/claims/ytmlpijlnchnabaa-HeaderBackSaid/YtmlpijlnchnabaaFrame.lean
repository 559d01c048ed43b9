/- The frame of a law's row, once for all laws of this seat: out of a contract of the law's walk (it returns true, and nothing that was there has changed) comes the row. And: scalar structs among the arguments, opened. -/
import Derived.WalkKit
import Derived.ProofKit
import Derived.OpenShut
import Derived.ShutString
import Derived.ChangeOld
import Derived.Below
import Derived.Carry
import Derived.SizedLaws
import Derived.KernelRfl
import Derived.Lib.SmallJoins
namespace Go.Proofs.Ytmlpijlnchnabaa.Frame
open Go.ChangeShapes Go.WideShapes Go.ChangeAt Go.RowKit
set_option linter.unusedVariables false

theorem trodAll_below {H : Type} {enc : TypeId × Value → H} {P : Program} (hl : laidOutB P = true) {W W' : World} (hb : Below W.heap.size W W') :
    ∀ {ts : List TypeId} {vs : List Value} {ds : List (DataW H)} {ps : List MemPlace}, (ts.all fun t => P.readableRec t && decide (t < P.types.size)) = true →
      DataW.TrodAll enc P W 0 (fun _ => true) true ts vs ds ps → DataW.TrodAll enc P W' 0 (fun b => decide (b < W.heap.size)) true ts vs ds ps
  | [], vs, ds, ps, _, h => by
    obtain ⟨rfl, rfl, rfl⟩ := trodAll_nil h
    exact trodAll_mk0
  | t :: ts, vs, ds, ps, ht, h => by
    obtain ⟨v, vs', d, ds', p, q, rfl, rfl, rfl, h0, r0⟩ := trodAll_cons h
    simp only [List.all_cons, Bool.and_eq_true, decide_eq_true_eq] at ht
    have lt0 : ∀ x ∈ p, x.block < W.heap.size := by obtain ⟨m, hm⟩ := h0; exact DataW.trod_lt m _ _ _ hm
    exact trodAll_cons_mk (Below.trod hl ht.1.1 ht.1.2 h0 hb lt0) (trodAll_below hl hb ht.2 r0)

theorem trodAll_length {H : Type} {enc : TypeId × Value → H} {P : Program} {W : World} {base : Nat} {sp : Nat → Bool} {held : Bool} :
    ∀ {ts : List TypeId} {vs : List Value} {ds : List (DataW H)} {ps : List MemPlace}, DataW.TrodAll enc P W base sp held ts vs ds ps → ds.length = ts.length ∧ vs.length = ts.length
  | [], vs, ds, ps, h => by
    obtain ⟨rfl, rfl, rfl⟩ := trodAll_nil h
    exact ⟨rfl, rfl⟩
  | t :: ts, vs, ds, ps, h => by
    obtain ⟨v, vs', d, ds', p, q, rfl, rfl, rfl, h0, r0⟩ := trodAll_cons h
    have := trodAll_length r0
    simp [this.1, this.2]

theorem lifted_of {C : Checked} {os : Os} {n : FuncId} {fn : Func} {s : ChangeSpec} {H : Type} {enc : TypeId × Value → H} {conds : List PathCond} {bt : TypeId}
    (own : ownKnob C.prog.godebug = none) (started : os.Started) (noInit : C.prog.inits.idxOf? n = none) (hfn : C.prog.funcs[n]? = some fn)
    (witness : ∃ (w : World) (tape : Tape) (i : Input), w.os = os ∧ (w.forCall tape i).Shaped C.prog ∧ i.vars = [] ∧ Input.okWide C.prog (w.forCall tape i) .any w.heap.size n i ∧
      s.pre6 enc C.prog fn conds false (w.forCall tape i).memory i.args ∧ ({} : Assume).holds C.prog (lone (Frame.enter C.prog n i.args .normal) [] (w.forCall tape i)))
    (hv : s.vars = []) (hrt : fn.resultTypes = #[bt]) (hbt : C.prog.underlying bt = some .bool)
    (hspec : ∀ ds : List (DataW H), ds.length = fn.params.toList.length → s.fn H (ds ++ []) = { results := [.lit (.bool true)], args := ds })
    (hl : laidOutB C.prog = true) (hread : (fn.params.toList.all fun t => C.prog.readableRec t && decide (t < C.prog.types.size)) = true)
    (walk : ∀ (W : World) (base : Nat) (vs : List Value) (ds : List (DataW H)) (p : List MemPlace),
      (∀ (j : Nat) (t : TypeId) (v : Value), fn.params.toList[j]? = some t → vs[j]? = some v → Value.okWide C.prog W .any base t v) →
      DataW.TrodAll enc C.prog W 0 (fun _ => true) true fn.params.toList vs ds p →
      (DataW.weightsEach C.prog fn.params.toList ds).all (· ≤ reachBytes) = true →
      Calls C.prog n ⟨vs⟩ W fun e w' => e = .returned (.bool true) ∧ Below W.heap.size W w') :
    ReturnsInHanded {} C os n .any (s.pre6 enc C.prog fn conds false) (s.post enc C.prog fn false true false false) := by
  refine returnsInHanded_of_change_sized (C := C) own started noInit hfn witness ?_
  intro W base args ds gs before hval0 hW hcnd hsz0 _
  have hW' := hW
  obtain ⟨p, q, hA, hV, rfl, hfz, hnd⟩ := hW
  rw [hv] at hV
  obtain ⟨rfl, rfl⟩ := trodVars_none hV
  have hlen := trodAll_length hA
  have hvt : s.plain.varTypes C.prog = [] := by
    have : s.plain.vars = [] := hv
    simp [DataSpec.varTypes, this]
  have hsz : (DataW.weightsEach C.prog fn.params.toList ds).all (· ≤ reachBytes) = true := by
    have := hsz0
    rw [hvt, List.append_nil, List.append_nil] at this
    exact this
  have hval : ∀ (j : Nat) (t : TypeId) (v : Value), fn.params.toList[j]? = some t → args.toList[j]? = some v → Value.okWide C.prog W .any base t v := by
    intro j t v h1 h2
    exact hval0 j t v (by simpa using h1) (by simpa using h2)
  refine (walk W base args.toList ds p hval hA hsz).mono fun e W' ⟨he, bel⟩ => ?_
  subst he
  have hs := hspec ds hlen.1
  refine ⟨_, rfl, ds, [], p ++ [], [], p, [], hW', ?_, ?_, ?_, bel.frame _, fun h => by cases h⟩
  · rw [hs, hrt]
    exact trodAll_mk1 (shut_bool hbt _)
  · rw [hs]
    exact trodAll_below hl bel hread hA
  · rw [hs, hv]
    rfl
section
variable {H : Type} {enc : TypeId × Value → H} {P : Program} {w : World} {base b0 : Nat} {spare : Nat → Bool} {held : Bool} {r : Reach}

/-- A struct all of whose fields have one cell, by value: its cells, each with its own reading. -/
theorem open_struct {t : TypeId} {fs : Array Field} {v : Value} {d : DataW H} {p : List MemPlace} (hs : P.underlying t = some (.struct fs)) (hone : Go.Deep.oneCellFields P fs = true)
    (hv : Value.okWide P w r b0 t v) (h : DataW.Trod enc P w base spare held t v d p) :
    ∃ cs : Array Value, v = .agg cs ∧ cs.size = P.cellsOf t ∧ ∀ (j : Nat) (f : Field) (c : Value), fs[j]? = some f → cs[j]? = some c → ∃ (n : Nat) (y : DataW H × List MemPlace), DataW.trod enc P w base spare held n f.type [c] = some y := by
  obtain ⟨cs, rfl, hsz⟩ := okWide_struct hs hv
  obtain ⟨fuel, hf⟩ := h
  obtain ⟨xs, n, rfl, hx, hl, hlen, hall⟩ := DataW.trod_struct hs hf
  refine ⟨cs, rfl, hsz, fun j f c hj hc => ?_⟩
  obtain ⟨ho, hk⟩ := Go.Deep.hone_of hone j f hj
  have hlt : j < fs.size := (Array.getElem?_eq_some_iff.1 hj).1
  have hlx : j < xs.length := by omega
  have h0 := hall j f hj
  rw [ho, hk, List.getElem?_eq_getElem hlx] at h0
  have e : (List.take 1 (List.drop j (Value.agg cs).cells.toList)) = [c] := by
    have hcj : cs.toList[j]? = some c := by simpa using hc
    obtain ⟨hlt', he⟩ := List.getElem?_eq_some_iff.1 hcj
    show List.take 1 (List.drop j cs.toList) = [c]
    rw [List.drop_eq_getElem_cons hlt', he]
    rfl
  rw [e] at h0
  exact ⟨n, xs[j], h0⟩

/-- A struct by value, whatever its fields: each field's cells with their reading. -/
theorem open_nest {t : TypeId} {fs : Array Field} {v : Value} {d : DataW H} {p : List MemPlace} (hs : P.underlying t = some (.struct fs))
    (hv : Value.okWide P w r b0 t v) (h : DataW.Trod enc P w base spare held t v d p) :
    ∃ cs : Array Value, v = .agg cs ∧ cs.size = P.cellsOf t ∧ ∀ (j : Nat) (f : Field), fs[j]? = some f → ∃ (n : Nat) (y : DataW H × List MemPlace), DataW.trod enc P w base spare held n f.type ((cs.toList.drop f.offset).take (P.cellsOf f.type)) = some y := by
  obtain ⟨cs, rfl, hsz⟩ := okWide_struct hs hv
  obtain ⟨fuel, hf⟩ := h
  obtain ⟨xs, n, rfl, hx, hl, hlen, hall⟩ := DataW.trod_struct hs hf
  refine ⟨cs, rfl, hsz, fun j f hj => ?_⟩
  have hlt : j < fs.size := (Array.getElem?_eq_some_iff.1 hj).1
  have hlx : j < xs.length := by omega
  have h0 := hall j f hj
  rw [List.getElem?_eq_getElem hlx] at h0
  exact ⟨n, xs[j], h0⟩
/-- A field that is itself a struct. -/
theorem nest_field {t : TypeId} {fs : Array Field} {l : List Value} (hs : P.underlying t = some (.struct fs)) (h : ∃ (n : Nat) (y : DataW H × List MemPlace), DataW.trod enc P w base spare held n t l = some y) :
    ∀ (j : Nat) (f : Field), fs[j]? = some f → ∃ (n : Nat) (y : DataW H × List MemPlace), DataW.trod enc P w base spare held n f.type ((l.drop f.offset).take (P.cellsOf f.type)) = some y := by
  obtain ⟨fuel, y, hf⟩ := h
  obtain ⟨xs, n, rfl, hx, hl, hlen, hall⟩ := DataW.trod_struct hs hf
  intro j f hj
  have hlt : j < fs.size := (Array.getElem?_eq_some_iff.1 hj).1
  have hlx : j < xs.length := by omega
  have h0 := hall j f hj
  rw [List.getElem?_eq_getElem hlx] at h0
  exact ⟨n, xs[j], h0⟩
/-- A field of one cell. -/
theorem nest_cell {t : TypeId} {l : List Value} {o k : Nat} {c : Value} (h : ∃ (n : Nat) (y : DataW H × List MemPlace), DataW.trod enc P w base spare held n t ((l.drop o).take k) = some y) (hk : k = 1) (hc : (l.drop o).take 1 = [c]) :
    ∃ (n : Nat) (y : DataW H × List MemPlace), DataW.trod enc P w base spare held n t [c] = some y := by
  subst hk
  rw [hc] at h
  exact h
theorem cell_bool {t : TypeId} {c : Value} (ht : P.underlying t = some .bool) (h : ∃ (n : Nat) (y : DataW H × List MemPlace), DataW.trod enc P w base spare held n t [c] = some y) : ∃ b : Bool, c = .bool b := by
  obtain ⟨n, y, h⟩ := h
  obtain ⟨b, e, _⟩ := DataW.trod_bool ht h
  simp at e
  exact ⟨b, e⟩
theorem cell_int {t : TypeId} {k : IntKind} {c : Value} (ht : P.underlying t = some (.int k)) (h : ∃ (n : Nat) (y : DataW H × List MemPlace), DataW.trod enc P w base spare held n t [c] = some y) : ∃ x : Int, c = .int k x ∧ (Lit.int k x).wf = true := by
  obtain ⟨n, y, h⟩ := h
  obtain ⟨b, e, _, hw⟩ := DataW.trod_int ht h
  simp at e
  exact ⟨b, e, hw⟩
end

section
variable {α : Type} {cs : Array α}
theorem array1 (h : cs.size = 1) : ∃ c0, cs = #[c0] := by
  obtain ⟨l⟩ := cs
  match l, h with
  | [c0], _ => exact ⟨c0, rfl⟩
theorem array2 (h : cs.size = 2) : ∃ c0 c1, cs = #[c0, c1] := by
  obtain ⟨l⟩ := cs
  match l, h with
  | [c0, c1], _ => exact ⟨c0, c1, rfl⟩
theorem array3 (h : cs.size = 3) : ∃ c0 c1 c2, cs = #[c0, c1, c2] := by
  obtain ⟨l⟩ := cs
  match l, h with
  | [c0, c1, c2], _ => exact ⟨c0, c1, c2, rfl⟩
theorem array4 (h : cs.size = 4) : ∃ c0 c1 c2 c3, cs = #[c0, c1, c2, c3] := by
  obtain ⟨l⟩ := cs
  match l, h with
  | [c0, c1, c2, c3], _ => exact ⟨c0, c1, c2, c3, rfl⟩
theorem array5 (h : cs.size = 5) : ∃ c0 c1 c2 c3 c4, cs = #[c0, c1, c2, c3, c4] := by
  obtain ⟨l⟩ := cs
  match l, h with
  | [c0, c1, c2, c3, c4], _ => exact ⟨c0, c1, c2, c3, c4, rfl⟩
theorem array6 (h : cs.size = 6) : ∃ c0 c1 c2 c3 c4 c5, cs = #[c0, c1, c2, c3, c4, c5] := by
  obtain ⟨l⟩ := cs
  match l, h with
  | [c0, c1, c2, c3, c4, c5], _ => exact ⟨c0, c1, c2, c3, c4, c5, rfl⟩
theorem array7 (h : cs.size = 7) : ∃ c0 c1 c2 c3 c4 c5 c6, cs = #[c0, c1, c2, c3, c4, c5, c6] := by
  obtain ⟨l⟩ := cs
  match l, h with
  | [c0, c1, c2, c3, c4, c5, c6], _ => exact ⟨c0, c1, c2, c3, c4, c5, c6, rfl⟩
theorem array8 (h : cs.size = 8) : ∃ c0 c1 c2 c3 c4 c5 c6 c7, cs = #[c0, c1, c2, c3, c4, c5, c6, c7] := by
  obtain ⟨l⟩ := cs
  match l, h with
  | [c0, c1, c2, c3, c4, c5, c6, c7], _ => exact ⟨c0, c1, c2, c3, c4, c5, c6, c7, rfl⟩
theorem array9 (h : cs.size = 9) : ∃ c0 c1 c2 c3 c4 c5 c6 c7 c8, cs = #[c0, c1, c2, c3, c4, c5, c6, c7, c8] := by
  obtain ⟨l⟩ := cs
  match l, h with
  | [c0, c1, c2, c3, c4, c5, c6, c7, c8], _ => exact ⟨c0, c1, c2, c3, c4, c5, c6, c7, c8, rfl⟩
theorem array10 (h : cs.size = 10) : ∃ c0 c1 c2 c3 c4 c5 c6 c7 c8 c9, cs = #[c0, c1, c2, c3, c4, c5, c6, c7, c8, c9] := by
  obtain ⟨l⟩ := cs
  match l, h with
  | [c0, c1, c2, c3, c4, c5, c6, c7, c8, c9], _ => exact ⟨c0, c1, c2, c3, c4, c5, c6, c7, c8, c9, rfl⟩
theorem array11 (h : cs.size = 11) : ∃ c0 c1 c2 c3 c4 c5 c6 c7 c8 c9 c10, cs = #[c0, c1, c2, c3, c4, c5, c6, c7, c8, c9, c10] := by
  obtain ⟨l⟩ := cs
  match l, h with
  | [c0, c1, c2, c3, c4, c5, c6, c7, c8, c9, c10], _ => exact ⟨c0, c1, c2, c3, c4, c5, c6, c7, c8, c9, c10, rfl⟩
theorem array12 (h : cs.size = 12) : ∃ c0 c1 c2 c3 c4 c5 c6 c7 c8 c9 c10 c11, cs = #[c0, c1, c2, c3, c4, c5, c6, c7, c8, c9, c10, c11] := by
  obtain ⟨l⟩ := cs
  match l, h with
  | [c0, c1, c2, c3, c4, c5, c6, c7, c8, c9, c10, c11], _ => exact ⟨c0, c1, c2, c3, c4, c5, c6, c7, c8, c9, c10, c11, rfl⟩
end
end Go.Proofs.Ytmlpijlnchnabaa.Frame
