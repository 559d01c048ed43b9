/-
  No cell of these rows narrows 'for every input' (looked for: loops, veiled, ifaces, maps, wideKeys, modest, calm, conditions, laid).
  DERIVED. THE GIVEN ROWS OF THIS SEAT. 8 by the template 'for every input the law returns true; each argument reads behind the call as it read before'; 0 by the template 'total and deterministic' (their statements: YtdfpaebbejdjlaaTotals.lean).
  GIVEN WITH THE SEED: the statements are not yours to turn. If you find one false, say at which input.
  Laid BY PROGRAM, IN A SANDBOX (cutbox-rows.mjs): the forced cells as the released guide's own fill.sh prints them over the translation b15e00f340124e74… (all of the seat's roots in one cut). By AI agents, Wed Nov 11 2026. No macro, syntax, notation, axiom, sorry.
-/
import Derived.Test.YtdfpaebbejdjlaaChecked
import GoSem.Claim
import GoSem.ClaimJoined
import GoSem.ClaimMapViews
import Derived.JoinedTies
import Derived.KernelRfl
namespace Go.Proofs.Ytdfpaebbejdjlaa
/- THE CELL 'sum', in the pinned program and in every row, IS THE sha256 OF THE DUMP (.gsa) THAT YtdfpaebbejdjlaaProg.lean LOADS. Nothing in Lean hashes anything: it is a label: what it is worth is what the hold of that sum in a sandbox is worth. -/
noncomputable def Try.pinned : Pinned := { name := "ytdfpaebbejdjlaa", sum := "b15e00f340124e749edb70564d654208f487fb6e4c57c965f989ce27598cd923", checked := Try.checked }
namespace Rows
def none {H : Type} : Left H := { results := [], args := [] }

/-- 'whirligiglaw02.AluDoes': WHATEVER THE INPUT: true; the input reads as it did. -/
def aluDoesSpec : ChangeSpec := { name := "aluDoes", fn := fun _ => fun
  | [d] => { results := [.lit (.bool true)], args := [d] }
  | _ => none }
def aluDoesRow : OpenClaim := { program := "ytdfpaebbejdjlaa", sum := "b15e00f340124e749edb70564d654208f487fb6e4c57c965f989ce27598cd923", func := "whirligig/whirligiglaw02.AluDoes", spec := "aluDoes", apart := false }
def AluDoesSaid : Prop := aluDoesRow.holds Try.pinned (OpenSpec.ofChange aluDoesSpec)

/-- ITS FALSE NEIGHBOUR: 'it returns false'. Refute it at one input. -/
def aluDoesWrong : ChangeSpec := { name := "aluDoes", fn := fun _ => fun
  | [d] => { results := [.lit (.bool false)], args := [d] }
  | _ => none }
def AluDoesWrongFalsely : Prop := aluDoesRow.holds Try.pinned (OpenSpec.ofChange aluDoesWrong)

/-- 'whirligiglaw02.AluDaas': WHATEVER THE INPUT: true; the input reads as it did. -/
def aluDaasSpec : ChangeSpec := { name := "aluDaas", fn := fun _ => fun
  | [d1, d2] => { results := [.lit (.bool true)], args := [d1, d2] }
  | _ => none }
def aluDaasRow : OpenClaim := { program := "ytdfpaebbejdjlaa", sum := "b15e00f340124e749edb70564d654208f487fb6e4c57c965f989ce27598cd923", func := "whirligig/whirligiglaw02.AluDaas", spec := "aluDaas", apart := false }
def AluDaasSaid : Prop := aluDaasRow.holds Try.pinned (OpenSpec.ofChange aluDaasSpec)

/-- ITS FALSE NEIGHBOUR: 'it returns false'. Refute it at one input. -/
def aluDaasWrong : ChangeSpec := { name := "aluDaas", fn := fun _ => fun
  | [d1, d2] => { results := [.lit (.bool false)], args := [d1, d2] }
  | _ => none }
def AluDaasWrongFalsely : Prop := aluDaasRow.holds Try.pinned (OpenSpec.ofChange aluDaasWrong)

/-- 'whirligiglaw02.AluWords': WHATEVER THE INPUT: true; the input reads as it did. -/
def aluWordsSpec : ChangeSpec := { name := "aluWords", fn := fun _ => fun
  | [d1, d2, d3] => { results := [.lit (.bool true)], args := [d1, d2, d3] }
  | _ => none }
def aluWordsRow : OpenClaim := { program := "ytdfpaebbejdjlaa", sum := "b15e00f340124e749edb70564d654208f487fb6e4c57c965f989ce27598cd923", func := "whirligig/whirligiglaw02.AluWords", spec := "aluWords", apart := false }
def AluWordsSaid : Prop := aluWordsRow.holds Try.pinned (OpenSpec.ofChange aluWordsSpec)

/-- ITS FALSE NEIGHBOUR: 'it returns false'. Refute it at one input. -/
def aluWordsWrong : ChangeSpec := { name := "aluWords", fn := fun _ => fun
  | [d1, d2, d3] => { results := [.lit (.bool false)], args := [d1, d2, d3] }
  | _ => none }
def AluWordsWrongFalsely : Prop := aluWordsRow.holds Try.pinned (OpenSpec.ofChange aluWordsWrong)

/-- 'whirligiglaw02.AluDecimals': WHATEVER THE INPUT: true; the input reads as it did. -/
def aluDecimalsSpec : ChangeSpec := { name := "aluDecimals", fn := fun _ => fun
  | [d1, d2, d3] => { results := [.lit (.bool true)], args := [d1, d2, d3] }
  | _ => none }
def aluDecimalsRow : OpenClaim := { program := "ytdfpaebbejdjlaa", sum := "b15e00f340124e749edb70564d654208f487fb6e4c57c965f989ce27598cd923", func := "whirligig/whirligiglaw02.AluDecimals", spec := "aluDecimals", apart := false }
def AluDecimalsSaid : Prop := aluDecimalsRow.holds Try.pinned (OpenSpec.ofChange aluDecimalsSpec)

/-- ITS FALSE NEIGHBOUR: 'it returns false'. Refute it at one input. -/
def aluDecimalsWrong : ChangeSpec := { name := "aluDecimals", fn := fun _ => fun
  | [d1, d2, d3] => { results := [.lit (.bool false)], args := [d1, d2, d3] }
  | _ => none }
def AluDecimalsWrongFalsely : Prop := aluDecimalsRow.holds Try.pinned (OpenSpec.ofChange aluDecimalsWrong)

/-- 'whirligiglaw02.AluBytes': WHATEVER THE INPUT: true; the input reads as it did. -/
def aluBytesSpec : ChangeSpec := { name := "aluBytes", fn := fun _ => fun
  | [d1, d2] => { results := [.lit (.bool true)], args := [d1, d2] }
  | _ => none }
def aluBytesRow : OpenClaim := { program := "ytdfpaebbejdjlaa", sum := "b15e00f340124e749edb70564d654208f487fb6e4c57c965f989ce27598cd923", func := "whirligig/whirligiglaw02.AluBytes", spec := "aluBytes", apart := false }
def AluBytesSaid : Prop := aluBytesRow.holds Try.pinned (OpenSpec.ofChange aluBytesSpec)

/-- ITS FALSE NEIGHBOUR: 'it returns false'. Refute it at one input. -/
def aluBytesWrong : ChangeSpec := { name := "aluBytes", fn := fun _ => fun
  | [d1, d2] => { results := [.lit (.bool false)], args := [d1, d2] }
  | _ => none }
def AluBytesWrongFalsely : Prop := aluBytesRow.holds Try.pinned (OpenSpec.ofChange aluBytesWrong)

/-- 'whirligiglaw02.AluTurns': WHATEVER THE INPUT: true; the input reads as it did. -/
def aluTurnsSpec : ChangeSpec := { name := "aluTurns", fn := fun _ => fun
  | [d1, d2] => { results := [.lit (.bool true)], args := [d1, d2] }
  | _ => none }
def aluTurnsRow : OpenClaim := { program := "ytdfpaebbejdjlaa", sum := "b15e00f340124e749edb70564d654208f487fb6e4c57c965f989ce27598cd923", func := "whirligig/whirligiglaw02.AluTurns", spec := "aluTurns", apart := false }
def AluTurnsSaid : Prop := aluTurnsRow.holds Try.pinned (OpenSpec.ofChange aluTurnsSpec)

/-- ITS FALSE NEIGHBOUR: 'it returns false'. Refute it at one input. -/
def aluTurnsWrong : ChangeSpec := { name := "aluTurns", fn := fun _ => fun
  | [d1, d2] => { results := [.lit (.bool false)], args := [d1, d2] }
  | _ => none }
def AluTurnsWrongFalsely : Prop := aluTurnsRow.holds Try.pinned (OpenSpec.ofChange aluTurnsWrong)

/-- 'whirligiglaw02.AluSteps': WHATEVER THE INPUT: true; the input reads as it did. -/
def aluStepsSpec : ChangeSpec := { name := "aluSteps", fn := fun _ => fun
  | [d1, d2] => { results := [.lit (.bool true)], args := [d1, d2] }
  | _ => none }
def aluStepsRow : OpenClaim := { program := "ytdfpaebbejdjlaa", sum := "b15e00f340124e749edb70564d654208f487fb6e4c57c965f989ce27598cd923", func := "whirligig/whirligiglaw02.AluSteps", spec := "aluSteps", apart := false }
def AluStepsSaid : Prop := aluStepsRow.holds Try.pinned (OpenSpec.ofChange aluStepsSpec)

/-- ITS FALSE NEIGHBOUR: 'it returns false'. Refute it at one input. -/
def aluStepsWrong : ChangeSpec := { name := "aluSteps", fn := fun _ => fun
  | [d1, d2] => { results := [.lit (.bool false)], args := [d1, d2] }
  | _ => none }
def AluStepsWrongFalsely : Prop := aluStepsRow.holds Try.pinned (OpenSpec.ofChange aluStepsWrong)

/-- 'whirligiglaw02.AluBack': WHATEVER THE INPUT: true; the input reads as it did. -/
def aluBackSpec : ChangeSpec := { name := "aluBack", fn := fun _ => fun
  | [d1, d2, d3] => { results := [.lit (.bool true)], args := [d1, d2, d3] }
  | _ => none }
def aluBackRow : OpenClaim := { program := "ytdfpaebbejdjlaa", sum := "b15e00f340124e749edb70564d654208f487fb6e4c57c965f989ce27598cd923", func := "whirligig/whirligiglaw02.AluBack", spec := "aluBack", apart := false }
def AluBackSaid : Prop := aluBackRow.holds Try.pinned (OpenSpec.ofChange aluBackSpec)

/-- ITS FALSE NEIGHBOUR: 'it returns false'. Refute it at one input. -/
def aluBackWrong : ChangeSpec := { name := "aluBack", fn := fun _ => fun
  | [d1, d2, d3] => { results := [.lit (.bool false)], args := [d1, d2, d3] }
  | _ => none }
def AluBackWrongFalsely : Prop := aluBackRow.holds Try.pinned (OpenSpec.ofChange aluBackWrong)

/- THE SECOND FORM. 'bulk': how many values and letters a reading holds, each counted each time it is reached (what is shared counts as often as it is met; a slice's spare places count too). A statement '..UptoSaid' is the law's where the arguments, and the package variables that the reading takes, are together of bulk at most 1048576: NARROWER than '..Said'. Prove '..Said' where nothing that the law and all that it calls make is longer than what came in: it says more and counts as full. Else prove '..UptoSaid'. A law counts once. -/
mutual
def uptoBulk {H : Type} : DataW H → Nat
  | .lit (.string bytes) => bytes.length + 1
  | .lit _ => 1
  | .nil => 1
  | .ptr d => uptoBulk d + 1
  | .slice elems spare => uptoBulkAll elems + uptoBulkAll spare + 1
  | .agg parts => uptoBulkAll parts + 1
  | .iface _ d => uptoBulk d + 1
  | .map entries => uptoBulkEntries entries + 1
  | .held _ => 1
def uptoBulkAll {H : Type} : List (DataW H) → Nat
  | [] => 0
  | d :: r => uptoBulk d + uptoBulkAll r
def uptoBulkEntries {H : Type} : List (Lit × DataW H) → Nat
  | [] => 0
  | x :: r => uptoBulkEntry x + uptoBulkEntries r
def uptoBulkEntry {H : Type} : Lit × DataW H → Nat
  | (.string bytes, d) => bytes.length + uptoBulk d + 1
  | (_, d) => uptoBulk d + 1
 end
def uptoSmall : (H : Type) → List (DataW H) → Bool := fun _ ds => decide (uptoBulkAll ds ≤ 1048576)
def OpenSpec.upto (s : _root_.Go.ChangeSpec) : _root_.Go.OpenSpec := { _root_.Go.OpenSpec.ofChange s with cond := some uptoSmall }

/-- 'whirligiglaw02.AluDoes', WHERE WHAT IT READS IS OF BULK AT MOST 1048576: true; the input reads as it did. -/
def aluDoesUptoRow : OpenClaim := { program := "ytdfpaebbejdjlaa", sum := "b15e00f340124e749edb70564d654208f487fb6e4c57c965f989ce27598cd923", func := "whirligig/whirligiglaw02.AluDoes", spec := "aluDoes", apart := false, narrowed := true }
def AluDoesUptoSaid : Prop := aluDoesUptoRow.holds Try.pinned (OpenSpec.upto aluDoesSpec)

/-- 'whirligiglaw02.AluDaas', WHERE WHAT IT READS IS OF BULK AT MOST 1048576: true; the input reads as it did. -/
def aluDaasUptoRow : OpenClaim := { program := "ytdfpaebbejdjlaa", sum := "b15e00f340124e749edb70564d654208f487fb6e4c57c965f989ce27598cd923", func := "whirligig/whirligiglaw02.AluDaas", spec := "aluDaas", apart := false, narrowed := true }
def AluDaasUptoSaid : Prop := aluDaasUptoRow.holds Try.pinned (OpenSpec.upto aluDaasSpec)

/-- 'whirligiglaw02.AluWords', WHERE WHAT IT READS IS OF BULK AT MOST 1048576: true; the input reads as it did. -/
def aluWordsUptoRow : OpenClaim := { program := "ytdfpaebbejdjlaa", sum := "b15e00f340124e749edb70564d654208f487fb6e4c57c965f989ce27598cd923", func := "whirligig/whirligiglaw02.AluWords", spec := "aluWords", apart := false, narrowed := true }
def AluWordsUptoSaid : Prop := aluWordsUptoRow.holds Try.pinned (OpenSpec.upto aluWordsSpec)

/-- 'whirligiglaw02.AluDecimals', WHERE WHAT IT READS IS OF BULK AT MOST 1048576: true; the input reads as it did. -/
def aluDecimalsUptoRow : OpenClaim := { program := "ytdfpaebbejdjlaa", sum := "b15e00f340124e749edb70564d654208f487fb6e4c57c965f989ce27598cd923", func := "whirligig/whirligiglaw02.AluDecimals", spec := "aluDecimals", apart := false, narrowed := true }
def AluDecimalsUptoSaid : Prop := aluDecimalsUptoRow.holds Try.pinned (OpenSpec.upto aluDecimalsSpec)

/-- 'whirligiglaw02.AluBytes', WHERE WHAT IT READS IS OF BULK AT MOST 1048576: true; the input reads as it did. -/
def aluBytesUptoRow : OpenClaim := { program := "ytdfpaebbejdjlaa", sum := "b15e00f340124e749edb70564d654208f487fb6e4c57c965f989ce27598cd923", func := "whirligig/whirligiglaw02.AluBytes", spec := "aluBytes", apart := false, narrowed := true }
def AluBytesUptoSaid : Prop := aluBytesUptoRow.holds Try.pinned (OpenSpec.upto aluBytesSpec)

/-- 'whirligiglaw02.AluTurns', WHERE WHAT IT READS IS OF BULK AT MOST 1048576: true; the input reads as it did. -/
def aluTurnsUptoRow : OpenClaim := { program := "ytdfpaebbejdjlaa", sum := "b15e00f340124e749edb70564d654208f487fb6e4c57c965f989ce27598cd923", func := "whirligig/whirligiglaw02.AluTurns", spec := "aluTurns", apart := false, narrowed := true }
def AluTurnsUptoSaid : Prop := aluTurnsUptoRow.holds Try.pinned (OpenSpec.upto aluTurnsSpec)

/-- 'whirligiglaw02.AluSteps', WHERE WHAT IT READS IS OF BULK AT MOST 1048576: true; the input reads as it did. -/
def aluStepsUptoRow : OpenClaim := { program := "ytdfpaebbejdjlaa", sum := "b15e00f340124e749edb70564d654208f487fb6e4c57c965f989ce27598cd923", func := "whirligig/whirligiglaw02.AluSteps", spec := "aluSteps", apart := false, narrowed := true }
def AluStepsUptoSaid : Prop := aluStepsUptoRow.holds Try.pinned (OpenSpec.upto aluStepsSpec)

/-- 'whirligiglaw02.AluBack', WHERE WHAT IT READS IS OF BULK AT MOST 1048576: true; the input reads as it did. -/
def aluBackUptoRow : OpenClaim := { program := "ytdfpaebbejdjlaa", sum := "b15e00f340124e749edb70564d654208f487fb6e4c57c965f989ce27598cd923", func := "whirligig/whirligiglaw02.AluBack", spec := "aluBack", apart := false, narrowed := true }
def AluBackUptoSaid : Prop := aluBackUptoRow.holds Try.pinned (OpenSpec.upto aluBackSpec)

end Rows
end Go.Proofs.Ytdfpaebbejdjlaa
