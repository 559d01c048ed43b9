/-
  No cell of these rows narrows 'for every input' (looked for: loops, veiled, ifaces, maps, wideKeys, modest, calm, conditions, laid).
  DERIVED. THE GIVEN ROWS OF THIS SEAT. 9 by the template 'for every input the law returns true; each argument reads behind the call as it read before'; 0 by the template 'total and deterministic' (their statements: YtkfjofkocccefaaTotals.lean).
  GIVEN WITH THE SEED: the statements are not yours to turn. If you find one false, say at which input.
  Laid BY PROGRAM, IN A SANDBOX (cutbox-rows.mjs): the forced cells as the released guide's own fill.sh prints them over the translation c9030f6abeae2194… (all of the seat's roots in one cut). By AI agents, Wed Nov 11 2026. No macro, syntax, notation, axiom, sorry.
-/
import Derived.Test.YtkfjofkocccefaaChecked
import GoSem.Claim
import GoSem.ClaimJoined
import GoSem.ClaimMapViews
import Derived.JoinedTies
import Derived.KernelRfl
namespace Go.Proofs.Ytkfjofkocccefaa
/- THE CELL 'sum', in the pinned program and in every row, IS THE sha256 OF THE DUMP (.gsa) THAT YtkfjofkocccefaaProg.lean LOADS. Nothing in Lean hashes anything: it is a label: what it is worth is what the hold of that sum in a sandbox is worth. -/
noncomputable def Try.pinned : Pinned := { name := "ytkfjofkocccefaa", sum := "c9030f6abeae2194135a29df53365e8ef95b2784c9e24e31c5fbf134099d9770", checked := Try.checked }
namespace Rows
def none {H : Type} : Left H := { results := [], args := [] }

/-- 'whirligiglaw09.ClockTicks': WHATEVER THE INPUT: true; the input reads as it did. -/
def clockTicksSpec : ChangeSpec := { name := "clockTicks", fn := fun _ => fun
  | [d] => { results := [.lit (.bool true)], args := [d] }
  | _ => none }
def clockTicksRow : OpenClaim := { program := "ytkfjofkocccefaa", sum := "c9030f6abeae2194135a29df53365e8ef95b2784c9e24e31c5fbf134099d9770", func := "whirligig/whirligiglaw09.ClockTicks", spec := "clockTicks", apart := false }
def ClockTicksSaid : Prop := clockTicksRow.holds Try.pinned (OpenSpec.ofChange clockTicksSpec)

/-- ITS FALSE NEIGHBOUR: 'it returns false'. Refute it at one input. -/
def clockTicksWrong : ChangeSpec := { name := "clockTicks", fn := fun _ => fun
  | [d] => { results := [.lit (.bool false)], args := [d] }
  | _ => none }
def ClockTicksWrongFalsely : Prop := clockTicksRow.holds Try.pinned (OpenSpec.ofChange clockTicksWrong)

/-- 'whirligiglaw09.ClockReads': WHATEVER THE INPUT: true; the input reads as it did. -/
def clockReadsSpec : ChangeSpec := { name := "clockReads", fn := fun _ => fun
  | [d1, d2] => { results := [.lit (.bool true)], args := [d1, d2] }
  | _ => none }
def clockReadsRow : OpenClaim := { program := "ytkfjofkocccefaa", sum := "c9030f6abeae2194135a29df53365e8ef95b2784c9e24e31c5fbf134099d9770", func := "whirligig/whirligiglaw09.ClockReads", spec := "clockReads", apart := false }
def ClockReadsSaid : Prop := clockReadsRow.holds Try.pinned (OpenSpec.ofChange clockReadsSpec)

/-- ITS FALSE NEIGHBOUR: 'it returns false'. Refute it at one input. -/
def clockReadsWrong : ChangeSpec := { name := "clockReads", fn := fun _ => fun
  | [d1, d2] => { results := [.lit (.bool false)], args := [d1, d2] }
  | _ => none }
def ClockReadsWrongFalsely : Prop := clockReadsRow.holds Try.pinned (OpenSpec.ofChange clockReadsWrong)

/-- 'whirligiglaw09.ClockBytes': WHATEVER THE INPUT: true; the input reads as it did. -/
def clockBytesSpec : ChangeSpec := { name := "clockBytes", fn := fun _ => fun
  | [d1, d2] => { results := [.lit (.bool true)], args := [d1, d2] }
  | _ => none }
def clockBytesRow : OpenClaim := { program := "ytkfjofkocccefaa", sum := "c9030f6abeae2194135a29df53365e8ef95b2784c9e24e31c5fbf134099d9770", func := "whirligig/whirligiglaw09.ClockBytes", spec := "clockBytes", apart := false }
def ClockBytesSaid : Prop := clockBytesRow.holds Try.pinned (OpenSpec.ofChange clockBytesSpec)

/-- ITS FALSE NEIGHBOUR: 'it returns false'. Refute it at one input. -/
def clockBytesWrong : ChangeSpec := { name := "clockBytes", fn := fun _ => fun
  | [d1, d2] => { results := [.lit (.bool false)], args := [d1, d2] }
  | _ => none }
def ClockBytesWrongFalsely : Prop := clockBytesRow.holds Try.pinned (OpenSpec.ofChange clockBytesWrong)

/-- 'whirligiglaw09.ClockRuns': WHATEVER THE INPUT: true; the input reads as it did. -/
def clockRunsSpec : ChangeSpec := { name := "clockRuns", fn := fun _ => fun
  | [d1, d2] => { results := [.lit (.bool true)], args := [d1, d2] }
  | _ => none }
def clockRunsRow : OpenClaim := { program := "ytkfjofkocccefaa", sum := "c9030f6abeae2194135a29df53365e8ef95b2784c9e24e31c5fbf134099d9770", func := "whirligig/whirligiglaw09.ClockRuns", spec := "clockRuns", apart := false }
def ClockRunsSaid : Prop := clockRunsRow.holds Try.pinned (OpenSpec.ofChange clockRunsSpec)

/-- ITS FALSE NEIGHBOUR: 'it returns false'. Refute it at one input. -/
def clockRunsWrong : ChangeSpec := { name := "clockRuns", fn := fun _ => fun
  | [d1, d2] => { results := [.lit (.bool false)], args := [d1, d2] }
  | _ => none }
def ClockRunsWrongFalsely : Prop := clockRunsRow.holds Try.pinned (OpenSpec.ofChange clockRunsWrong)

/-- 'whirligiglaw09.ClockDay': WHATEVER THE INPUT: true; the input reads as it did. -/
def clockDaySpec : ChangeSpec := { name := "clockDay", fn := fun _ => fun
  | [d1, d2, d3, d4] => { results := [.lit (.bool true)], args := [d1, d2, d3, d4] }
  | _ => none }
def clockDayRow : OpenClaim := { program := "ytkfjofkocccefaa", sum := "c9030f6abeae2194135a29df53365e8ef95b2784c9e24e31c5fbf134099d9770", func := "whirligig/whirligiglaw09.ClockDay", spec := "clockDay", apart := false }
def ClockDaySaid : Prop := clockDayRow.holds Try.pinned (OpenSpec.ofChange clockDaySpec)

/-- ITS FALSE NEIGHBOUR: 'it returns false'. Refute it at one input. -/
def clockDayWrong : ChangeSpec := { name := "clockDay", fn := fun _ => fun
  | [d1, d2, d3, d4] => { results := [.lit (.bool false)], args := [d1, d2, d3, d4] }
  | _ => none }
def ClockDayWrongFalsely : Prop := clockDayRow.holds Try.pinned (OpenSpec.ofChange clockDayWrong)

/-- 'whirligiglaw09.ClockSums': WHATEVER THE INPUT: true; the input reads as it did. -/
def clockSumsSpec : ChangeSpec := { name := "clockSums", fn := fun _ => fun
  | [d1, d2, d3] => { results := [.lit (.bool true)], args := [d1, d2, d3] }
  | _ => none }
def clockSumsRow : OpenClaim := { program := "ytkfjofkocccefaa", sum := "c9030f6abeae2194135a29df53365e8ef95b2784c9e24e31c5fbf134099d9770", func := "whirligig/whirligiglaw09.ClockSums", spec := "clockSums", apart := false }
def ClockSumsSaid : Prop := clockSumsRow.holds Try.pinned (OpenSpec.ofChange clockSumsSpec)

/-- ITS FALSE NEIGHBOUR: 'it returns false'. Refute it at one input. -/
def clockSumsWrong : ChangeSpec := { name := "clockSums", fn := fun _ => fun
  | [d1, d2, d3] => { results := [.lit (.bool false)], args := [d1, d2, d3] }
  | _ => none }
def ClockSumsWrongFalsely : Prop := clockSumsRow.holds Try.pinned (OpenSpec.ofChange clockSumsWrong)

/-- 'whirligiglaw09.ClockWrites': WHATEVER THE INPUT: true; the input reads as it did. -/
def clockWritesSpec : ChangeSpec := { name := "clockWrites", fn := fun _ => fun
  | [d1, d2, d3] => { results := [.lit (.bool true)], args := [d1, d2, d3] }
  | _ => none }
def clockWritesRow : OpenClaim := { program := "ytkfjofkocccefaa", sum := "c9030f6abeae2194135a29df53365e8ef95b2784c9e24e31c5fbf134099d9770", func := "whirligig/whirligiglaw09.ClockWrites", spec := "clockWrites", apart := false }
def ClockWritesSaid : Prop := clockWritesRow.holds Try.pinned (OpenSpec.ofChange clockWritesSpec)

/-- ITS FALSE NEIGHBOUR: 'it returns false'. Refute it at one input. -/
def clockWritesWrong : ChangeSpec := { name := "clockWrites", fn := fun _ => fun
  | [d1, d2, d3] => { results := [.lit (.bool false)], args := [d1, d2, d3] }
  | _ => none }
def ClockWritesWrongFalsely : Prop := clockWritesRow.holds Try.pinned (OpenSpec.ofChange clockWritesWrong)

/-- 'whirligiglaw09.ClockOfs': WHATEVER THE INPUT: true; the input reads as it did. -/
def clockOfsSpec : ChangeSpec := { name := "clockOfs", fn := fun _ => fun
  | [d] => { results := [.lit (.bool true)], args := [d] }
  | _ => none }
def clockOfsRow : OpenClaim := { program := "ytkfjofkocccefaa", sum := "c9030f6abeae2194135a29df53365e8ef95b2784c9e24e31c5fbf134099d9770", func := "whirligig/whirligiglaw09.ClockOfs", spec := "clockOfs", apart := false }
def ClockOfsSaid : Prop := clockOfsRow.holds Try.pinned (OpenSpec.ofChange clockOfsSpec)

/-- ITS FALSE NEIGHBOUR: 'it returns false'. Refute it at one input. -/
def clockOfsWrong : ChangeSpec := { name := "clockOfs", fn := fun _ => fun
  | [d] => { results := [.lit (.bool false)], args := [d] }
  | _ => none }
def ClockOfsWrongFalsely : Prop := clockOfsRow.holds Try.pinned (OpenSpec.ofChange clockOfsWrong)

/-- 'whirligiglaw09.ClockBack': WHATEVER THE INPUT: true; the input reads as it did. -/
def clockBackSpec : ChangeSpec := { name := "clockBack", fn := fun _ => fun
  | [d1, d2, d3, d4] => { results := [.lit (.bool true)], args := [d1, d2, d3, d4] }
  | _ => none }
def clockBackRow : OpenClaim := { program := "ytkfjofkocccefaa", sum := "c9030f6abeae2194135a29df53365e8ef95b2784c9e24e31c5fbf134099d9770", func := "whirligig/whirligiglaw09.ClockBack", spec := "clockBack", apart := false }
def ClockBackSaid : Prop := clockBackRow.holds Try.pinned (OpenSpec.ofChange clockBackSpec)

/-- ITS FALSE NEIGHBOUR: 'it returns false'. Refute it at one input. -/
def clockBackWrong : ChangeSpec := { name := "clockBack", fn := fun _ => fun
  | [d1, d2, d3, d4] => { results := [.lit (.bool false)], args := [d1, d2, d3, d4] }
  | _ => none }
def ClockBackWrongFalsely : Prop := clockBackRow.holds Try.pinned (OpenSpec.ofChange clockBackWrong)

/- THE SECOND FORM. 'bulk': how many values and letters a reading holds, each counted each time it is reached (what is shared counts as often as it is met; a slice's spare places count too). A statement '..UptoSaid' is the law's where the arguments, and the package variables that the reading takes, are together of bulk at most 1048576: NARROWER than '..Said'. Prove '..Said' where nothing that the law and all that it calls make is longer than what came in: it says more and counts as full. Else prove '..UptoSaid'. A law counts once. -/
mutual
def uptoBulk {H : Type} : DataW H → Nat
  | .lit (.string bytes) => bytes.length + 1
  | .lit _ => 1
  | .nil => 1
  | .ptr d => uptoBulk d + 1
  | .slice elems spare => uptoBulkAll elems + uptoBulkAll spare + 1
  | .agg parts => uptoBulkAll parts + 1
  | .iface _ d => uptoBulk d + 1
  | .map entries => uptoBulkEntries entries + 1
  | .held _ => 1
def uptoBulkAll {H : Type} : List (DataW H) → Nat
  | [] => 0
  | d :: r => uptoBulk d + uptoBulkAll r
def uptoBulkEntries {H : Type} : List (Lit × DataW H) → Nat
  | [] => 0
  | x :: r => uptoBulkEntry x + uptoBulkEntries r
def uptoBulkEntry {H : Type} : Lit × DataW H → Nat
  | (.string bytes, d) => bytes.length + uptoBulk d + 1
  | (_, d) => uptoBulk d + 1
 end
def uptoSmall : (H : Type) → List (DataW H) → Bool := fun _ ds => decide (uptoBulkAll ds ≤ 1048576)
def OpenSpec.upto (s : _root_.Go.ChangeSpec) : _root_.Go.OpenSpec := { _root_.Go.OpenSpec.ofChange s with cond := some uptoSmall }

/-- 'whirligiglaw09.ClockTicks', WHERE WHAT IT READS IS OF BULK AT MOST 1048576: true; the input reads as it did. -/
def clockTicksUptoRow : OpenClaim := { program := "ytkfjofkocccefaa", sum := "c9030f6abeae2194135a29df53365e8ef95b2784c9e24e31c5fbf134099d9770", func := "whirligig/whirligiglaw09.ClockTicks", spec := "clockTicks", apart := false, narrowed := true }
def ClockTicksUptoSaid : Prop := clockTicksUptoRow.holds Try.pinned (OpenSpec.upto clockTicksSpec)

/-- 'whirligiglaw09.ClockReads', WHERE WHAT IT READS IS OF BULK AT MOST 1048576: true; the input reads as it did. -/
def clockReadsUptoRow : OpenClaim := { program := "ytkfjofkocccefaa", sum := "c9030f6abeae2194135a29df53365e8ef95b2784c9e24e31c5fbf134099d9770", func := "whirligig/whirligiglaw09.ClockReads", spec := "clockReads", apart := false, narrowed := true }
def ClockReadsUptoSaid : Prop := clockReadsUptoRow.holds Try.pinned (OpenSpec.upto clockReadsSpec)

/-- 'whirligiglaw09.ClockBytes', WHERE WHAT IT READS IS OF BULK AT MOST 1048576: true; the input reads as it did. -/
def clockBytesUptoRow : OpenClaim := { program := "ytkfjofkocccefaa", sum := "c9030f6abeae2194135a29df53365e8ef95b2784c9e24e31c5fbf134099d9770", func := "whirligig/whirligiglaw09.ClockBytes", spec := "clockBytes", apart := false, narrowed := true }
def ClockBytesUptoSaid : Prop := clockBytesUptoRow.holds Try.pinned (OpenSpec.upto clockBytesSpec)

/-- 'whirligiglaw09.ClockRuns', WHERE WHAT IT READS IS OF BULK AT MOST 1048576: true; the input reads as it did. -/
def clockRunsUptoRow : OpenClaim := { program := "ytkfjofkocccefaa", sum := "c9030f6abeae2194135a29df53365e8ef95b2784c9e24e31c5fbf134099d9770", func := "whirligig/whirligiglaw09.ClockRuns", spec := "clockRuns", apart := false, narrowed := true }
def ClockRunsUptoSaid : Prop := clockRunsUptoRow.holds Try.pinned (OpenSpec.upto clockRunsSpec)

/-- 'whirligiglaw09.ClockDay', WHERE WHAT IT READS IS OF BULK AT MOST 1048576: true; the input reads as it did. -/
def clockDayUptoRow : OpenClaim := { program := "ytkfjofkocccefaa", sum := "c9030f6abeae2194135a29df53365e8ef95b2784c9e24e31c5fbf134099d9770", func := "whirligig/whirligiglaw09.ClockDay", spec := "clockDay", apart := false, narrowed := true }
def ClockDayUptoSaid : Prop := clockDayUptoRow.holds Try.pinned (OpenSpec.upto clockDaySpec)

/-- 'whirligiglaw09.ClockSums', WHERE WHAT IT READS IS OF BULK AT MOST 1048576: true; the input reads as it did. -/
def clockSumsUptoRow : OpenClaim := { program := "ytkfjofkocccefaa", sum := "c9030f6abeae2194135a29df53365e8ef95b2784c9e24e31c5fbf134099d9770", func := "whirligig/whirligiglaw09.ClockSums", spec := "clockSums", apart := false, narrowed := true }
def ClockSumsUptoSaid : Prop := clockSumsUptoRow.holds Try.pinned (OpenSpec.upto clockSumsSpec)

/-- 'whirligiglaw09.ClockWrites', WHERE WHAT IT READS IS OF BULK AT MOST 1048576: true; the input reads as it did. -/
def clockWritesUptoRow : OpenClaim := { program := "ytkfjofkocccefaa", sum := "c9030f6abeae2194135a29df53365e8ef95b2784c9e24e31c5fbf134099d9770", func := "whirligig/whirligiglaw09.ClockWrites", spec := "clockWrites", apart := false, narrowed := true }
def ClockWritesUptoSaid : Prop := clockWritesUptoRow.holds Try.pinned (OpenSpec.upto clockWritesSpec)

/-- 'whirligiglaw09.ClockOfs', WHERE WHAT IT READS IS OF BULK AT MOST 1048576: true; the input reads as it did. -/
def clockOfsUptoRow : OpenClaim := { program := "ytkfjofkocccefaa", sum := "c9030f6abeae2194135a29df53365e8ef95b2784c9e24e31c5fbf134099d9770", func := "whirligig/whirligiglaw09.ClockOfs", spec := "clockOfs", apart := false, narrowed := true }
def ClockOfsUptoSaid : Prop := clockOfsUptoRow.holds Try.pinned (OpenSpec.upto clockOfsSpec)

/-- 'whirligiglaw09.ClockBack', WHERE WHAT IT READS IS OF BULK AT MOST 1048576: true; the input reads as it did. -/
def clockBackUptoRow : OpenClaim := { program := "ytkfjofkocccefaa", sum := "c9030f6abeae2194135a29df53365e8ef95b2784c9e24e31c5fbf134099d9770", func := "whirligig/whirligiglaw09.ClockBack", spec := "clockBack", apart := false, narrowed := true }
def ClockBackUptoSaid : Prop := clockBackUptoRow.holds Try.pinned (OpenSpec.upto clockBackSpec)

end Rows
end Go.Proofs.Ytkfjofkocccefaa
