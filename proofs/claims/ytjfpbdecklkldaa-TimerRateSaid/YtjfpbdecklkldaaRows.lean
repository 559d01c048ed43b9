/-
  No cell of these rows narrows 'for every input' (looked for: loops, veiled, ifaces, maps, wideKeys, modest, calm, conditions, laid).
  DERIVED. THE GIVEN ROWS OF THIS SEAT. 7 by the template 'for every input the law returns true; each argument reads behind the call as it read before'; 0 by the template 'total and deterministic' (their statements: YtjfpbdecklkldaaTotals.lean).
  GIVEN WITH THE SEED: the statements are not yours to turn. If you find one false, say at which input.
  Laid BY PROGRAM, IN A SANDBOX (cutbox-rows.mjs): the forced cells as the released guide's own fill.sh prints them over the translation b977963129aa4861… (all of the seat's roots in one cut). By AI agents, Wed Nov 11 2026. No macro, syntax, notation, axiom, sorry.
-/
import Derived.Test.YtjfpbdecklkldaaChecked
import GoSem.Claim
import GoSem.ClaimJoined
import GoSem.ClaimMapViews
import Derived.JoinedTies
import Derived.KernelRfl
namespace Go.Proofs.Ytjfpbdecklkldaa
/- THE CELL 'sum', in the pinned program and in every row, IS THE sha256 OF THE DUMP (.gsa) THAT YtjfpbdecklkldaaProg.lean LOADS. Nothing in Lean hashes anything: it is a label: what it is worth is what the hold of that sum in a sandbox is worth. -/
noncomputable def Try.pinned : Pinned := { name := "ytjfpbdecklkldaa", sum := "b977963129aa486174d16439037a19abee2e35f9e8bbeb668b9a046cf20e28c4", checked := Try.checked }
namespace Rows
def none {H : Type} : Left H := { results := [], args := [] }

/-- 'whirligiglaw11.TimerHots': WHATEVER THE INPUT: true; the input reads as it did. -/
def timerHotsSpec : ChangeSpec := { name := "timerHots", fn := fun _ => fun
  | [d] => { results := [.lit (.bool true)], args := [d] }
  | _ => none }
def timerHotsRow : OpenClaim := { program := "ytjfpbdecklkldaa", sum := "b977963129aa486174d16439037a19abee2e35f9e8bbeb668b9a046cf20e28c4", func := "whirligig/whirligiglaw11.TimerHots", spec := "timerHots", apart := false }
def TimerHotsSaid : Prop := timerHotsRow.holds Try.pinned (OpenSpec.ofChange timerHotsSpec)

/-- ITS FALSE NEIGHBOUR: 'it returns false'. Refute it at one input. -/
def timerHotsWrong : ChangeSpec := { name := "timerHots", fn := fun _ => fun
  | [d] => { results := [.lit (.bool false)], args := [d] }
  | _ => none }
def TimerHotsWrongFalsely : Prop := timerHotsRow.holds Try.pinned (OpenSpec.ofChange timerHotsWrong)

/-- 'whirligiglaw11.TimerSteps': WHATEVER THE INPUT: true; the input reads as it did. -/
def timerStepsSpec : ChangeSpec := { name := "timerSteps", fn := fun _ => fun
  | [d] => { results := [.lit (.bool true)], args := [d] }
  | _ => none }
def timerStepsRow : OpenClaim := { program := "ytjfpbdecklkldaa", sum := "b977963129aa486174d16439037a19abee2e35f9e8bbeb668b9a046cf20e28c4", func := "whirligig/whirligiglaw11.TimerSteps", spec := "timerSteps", apart := false }
def TimerStepsSaid : Prop := timerStepsRow.holds Try.pinned (OpenSpec.ofChange timerStepsSpec)

/-- ITS FALSE NEIGHBOUR: 'it returns false'. Refute it at one input. -/
def timerStepsWrong : ChangeSpec := { name := "timerSteps", fn := fun _ => fun
  | [d] => { results := [.lit (.bool false)], args := [d] }
  | _ => none }
def TimerStepsWrongFalsely : Prop := timerStepsRow.holds Try.pinned (OpenSpec.ofChange timerStepsWrong)

/-- 'whirligiglaw11.TimerWrites': WHATEVER THE INPUT: true; the input reads as it did. -/
def timerWritesSpec : ChangeSpec := { name := "timerWrites", fn := fun _ => fun
  | [d1, d2, d3] => { results := [.lit (.bool true)], args := [d1, d2, d3] }
  | _ => none }
def timerWritesRow : OpenClaim := { program := "ytjfpbdecklkldaa", sum := "b977963129aa486174d16439037a19abee2e35f9e8bbeb668b9a046cf20e28c4", func := "whirligig/whirligiglaw11.TimerWrites", spec := "timerWrites", apart := false }
def TimerWritesSaid : Prop := timerWritesRow.holds Try.pinned (OpenSpec.ofChange timerWritesSpec)

/-- ITS FALSE NEIGHBOUR: 'it returns false'. Refute it at one input. -/
def timerWritesWrong : ChangeSpec := { name := "timerWrites", fn := fun _ => fun
  | [d1, d2, d3] => { results := [.lit (.bool false)], args := [d1, d2, d3] }
  | _ => none }
def TimerWritesWrongFalsely : Prop := timerWritesRow.holds Try.pinned (OpenSpec.ofChange timerWritesWrong)

/-- 'whirligiglaw11.TimerDivs': WHATEVER THE INPUT: true; the input reads as it did. -/
def timerDivsSpec : ChangeSpec := { name := "timerDivs", fn := fun _ => fun
  | [d1, d2] => { results := [.lit (.bool true)], args := [d1, d2] }
  | _ => none }
def timerDivsRow : OpenClaim := { program := "ytjfpbdecklkldaa", sum := "b977963129aa486174d16439037a19abee2e35f9e8bbeb668b9a046cf20e28c4", func := "whirligig/whirligiglaw11.TimerDivs", spec := "timerDivs", apart := false }
def TimerDivsSaid : Prop := timerDivsRow.holds Try.pinned (OpenSpec.ofChange timerDivsSpec)

/-- ITS FALSE NEIGHBOUR: 'it returns false'. Refute it at one input. -/
def timerDivsWrong : ChangeSpec := { name := "timerDivs", fn := fun _ => fun
  | [d1, d2] => { results := [.lit (.bool false)], args := [d1, d2] }
  | _ => none }
def TimerDivsWrongFalsely : Prop := timerDivsRow.holds Try.pinned (OpenSpec.ofChange timerDivsWrong)

/-- 'whirligiglaw11.TimerRate': WHATEVER THE INPUT: true; the input reads as it did. -/
def timerRateSpec : ChangeSpec := { name := "timerRate", fn := fun _ => fun
  | [d1, d2] => { results := [.lit (.bool true)], args := [d1, d2] }
  | _ => none }
def timerRateRow : OpenClaim := { program := "ytjfpbdecklkldaa", sum := "b977963129aa486174d16439037a19abee2e35f9e8bbeb668b9a046cf20e28c4", func := "whirligig/whirligiglaw11.TimerRate", spec := "timerRate", apart := false }
def TimerRateSaid : Prop := timerRateRow.holds Try.pinned (OpenSpec.ofChange timerRateSpec)

/-- ITS FALSE NEIGHBOUR: 'it returns false'. Refute it at one input. -/
def timerRateWrong : ChangeSpec := { name := "timerRate", fn := fun _ => fun
  | [d1, d2] => { results := [.lit (.bool false)], args := [d1, d2] }
  | _ => none }
def TimerRateWrongFalsely : Prop := timerRateRow.holds Try.pinned (OpenSpec.ofChange timerRateWrong)

/-- 'whirligiglaw11.TimerReads': WHATEVER THE INPUT: true; the input reads as it did. -/
def timerReadsSpec : ChangeSpec := { name := "timerReads", fn := fun _ => fun
  | [d1, d2] => { results := [.lit (.bool true)], args := [d1, d2] }
  | _ => none }
def timerReadsRow : OpenClaim := { program := "ytjfpbdecklkldaa", sum := "b977963129aa486174d16439037a19abee2e35f9e8bbeb668b9a046cf20e28c4", func := "whirligig/whirligiglaw11.TimerReads", spec := "timerReads", apart := false }
def TimerReadsSaid : Prop := timerReadsRow.holds Try.pinned (OpenSpec.ofChange timerReadsSpec)

/-- ITS FALSE NEIGHBOUR: 'it returns false'. Refute it at one input. -/
def timerReadsWrong : ChangeSpec := { name := "timerReads", fn := fun _ => fun
  | [d1, d2] => { results := [.lit (.bool false)], args := [d1, d2] }
  | _ => none }
def TimerReadsWrongFalsely : Prop := timerReadsRow.holds Try.pinned (OpenSpec.ofChange timerReadsWrong)

/-- 'whirligiglaw11.TimerLoads': WHATEVER THE INPUT: true; the input reads as it did. -/
def timerLoadsSpec : ChangeSpec := { name := "timerLoads", fn := fun _ => fun
  | [d1, d2, d3] => { results := [.lit (.bool true)], args := [d1, d2, d3] }
  | _ => none }
def timerLoadsRow : OpenClaim := { program := "ytjfpbdecklkldaa", sum := "b977963129aa486174d16439037a19abee2e35f9e8bbeb668b9a046cf20e28c4", func := "whirligig/whirligiglaw11.TimerLoads", spec := "timerLoads", apart := false }
def TimerLoadsSaid : Prop := timerLoadsRow.holds Try.pinned (OpenSpec.ofChange timerLoadsSpec)

/-- ITS FALSE NEIGHBOUR: 'it returns false'. Refute it at one input. -/
def timerLoadsWrong : ChangeSpec := { name := "timerLoads", fn := fun _ => fun
  | [d1, d2, d3] => { results := [.lit (.bool false)], args := [d1, d2, d3] }
  | _ => none }
def TimerLoadsWrongFalsely : Prop := timerLoadsRow.holds Try.pinned (OpenSpec.ofChange timerLoadsWrong)

/- THE SECOND FORM. 'bulk': how many values and letters a reading holds, each counted each time it is reached (what is shared counts as often as it is met; a slice's spare places count too). A statement '..UptoSaid' is the law's where the arguments, and the package variables that the reading takes, are together of bulk at most 1048576: NARROWER than '..Said'. Prove '..Said' where nothing that the law and all that it calls make is longer than what came in: it says more and counts as full. Else prove '..UptoSaid'. A law counts once. -/
mutual
def uptoBulk {H : Type} : DataW H → Nat
  | .lit (.string bytes) => bytes.length + 1
  | .lit _ => 1
  | .nil => 1
  | .ptr d => uptoBulk d + 1
  | .slice elems spare => uptoBulkAll elems + uptoBulkAll spare + 1
  | .agg parts => uptoBulkAll parts + 1
  | .iface _ d => uptoBulk d + 1
  | .map entries => uptoBulkEntries entries + 1
  | .held _ => 1
def uptoBulkAll {H : Type} : List (DataW H) → Nat
  | [] => 0
  | d :: r => uptoBulk d + uptoBulkAll r
def uptoBulkEntries {H : Type} : List (Lit × DataW H) → Nat
  | [] => 0
  | x :: r => uptoBulkEntry x + uptoBulkEntries r
def uptoBulkEntry {H : Type} : Lit × DataW H → Nat
  | (.string bytes, d) => bytes.length + uptoBulk d + 1
  | (_, d) => uptoBulk d + 1
 end
def uptoSmall : (H : Type) → List (DataW H) → Bool := fun _ ds => decide (uptoBulkAll ds ≤ 1048576)
def OpenSpec.upto (s : _root_.Go.ChangeSpec) : _root_.Go.OpenSpec := { _root_.Go.OpenSpec.ofChange s with cond := some uptoSmall }

/-- 'whirligiglaw11.TimerHots', WHERE WHAT IT READS IS OF BULK AT MOST 1048576: true; the input reads as it did. -/
def timerHotsUptoRow : OpenClaim := { program := "ytjfpbdecklkldaa", sum := "b977963129aa486174d16439037a19abee2e35f9e8bbeb668b9a046cf20e28c4", func := "whirligig/whirligiglaw11.TimerHots", spec := "timerHots", apart := false, narrowed := true }
def TimerHotsUptoSaid : Prop := timerHotsUptoRow.holds Try.pinned (OpenSpec.upto timerHotsSpec)

/-- 'whirligiglaw11.TimerSteps', WHERE WHAT IT READS IS OF BULK AT MOST 1048576: true; the input reads as it did. -/
def timerStepsUptoRow : OpenClaim := { program := "ytjfpbdecklkldaa", sum := "b977963129aa486174d16439037a19abee2e35f9e8bbeb668b9a046cf20e28c4", func := "whirligig/whirligiglaw11.TimerSteps", spec := "timerSteps", apart := false, narrowed := true }
def TimerStepsUptoSaid : Prop := timerStepsUptoRow.holds Try.pinned (OpenSpec.upto timerStepsSpec)

/-- 'whirligiglaw11.TimerWrites', WHERE WHAT IT READS IS OF BULK AT MOST 1048576: true; the input reads as it did. -/
def timerWritesUptoRow : OpenClaim := { program := "ytjfpbdecklkldaa", sum := "b977963129aa486174d16439037a19abee2e35f9e8bbeb668b9a046cf20e28c4", func := "whirligig/whirligiglaw11.TimerWrites", spec := "timerWrites", apart := false, narrowed := true }
def TimerWritesUptoSaid : Prop := timerWritesUptoRow.holds Try.pinned (OpenSpec.upto timerWritesSpec)

/-- 'whirligiglaw11.TimerDivs', WHERE WHAT IT READS IS OF BULK AT MOST 1048576: true; the input reads as it did. -/
def timerDivsUptoRow : OpenClaim := { program := "ytjfpbdecklkldaa", sum := "b977963129aa486174d16439037a19abee2e35f9e8bbeb668b9a046cf20e28c4", func := "whirligig/whirligiglaw11.TimerDivs", spec := "timerDivs", apart := false, narrowed := true }
def TimerDivsUptoSaid : Prop := timerDivsUptoRow.holds Try.pinned (OpenSpec.upto timerDivsSpec)

/-- 'whirligiglaw11.TimerRate', WHERE WHAT IT READS IS OF BULK AT MOST 1048576: true; the input reads as it did. -/
def timerRateUptoRow : OpenClaim := { program := "ytjfpbdecklkldaa", sum := "b977963129aa486174d16439037a19abee2e35f9e8bbeb668b9a046cf20e28c4", func := "whirligig/whirligiglaw11.TimerRate", spec := "timerRate", apart := false, narrowed := true }
def TimerRateUptoSaid : Prop := timerRateUptoRow.holds Try.pinned (OpenSpec.upto timerRateSpec)

/-- 'whirligiglaw11.TimerReads', WHERE WHAT IT READS IS OF BULK AT MOST 1048576: true; the input reads as it did. -/
def timerReadsUptoRow : OpenClaim := { program := "ytjfpbdecklkldaa", sum := "b977963129aa486174d16439037a19abee2e35f9e8bbeb668b9a046cf20e28c4", func := "whirligig/whirligiglaw11.TimerReads", spec := "timerReads", apart := false, narrowed := true }
def TimerReadsUptoSaid : Prop := timerReadsUptoRow.holds Try.pinned (OpenSpec.upto timerReadsSpec)

/-- 'whirligiglaw11.TimerLoads', WHERE WHAT IT READS IS OF BULK AT MOST 1048576: true; the input reads as it did. -/
def timerLoadsUptoRow : OpenClaim := { program := "ytjfpbdecklkldaa", sum := "b977963129aa486174d16439037a19abee2e35f9e8bbeb668b9a046cf20e28c4", func := "whirligig/whirligiglaw11.TimerLoads", spec := "timerLoads", apart := false, narrowed := true }
def TimerLoadsUptoSaid : Prop := timerLoadsUptoRow.holds Try.pinned (OpenSpec.upto timerLoadsSpec)

end Rows
end Go.Proofs.Ytjfpbdecklkldaa
