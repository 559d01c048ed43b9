/-
  No cell of these rows narrows 'for every input' (looked for: loops, veiled, ifaces, maps, wideKeys, modest, calm, conditions, laid).
  DERIVED. THE GIVEN ROWS OF THIS SEAT. 6 by the template 'for every input the law returns true; each argument reads behind the call as it read before'; 0 by the template 'total and deterministic' (their statements: YtmlpijlnchnabaaTotals.lean).
  GIVEN WITH THE SEED: the statements are not yours to turn. If you find one false, say at which input.
  Laid BY PROGRAM, IN A SANDBOX (cutbox-rows.mjs): the forced cells as the released guide's own fill.sh prints them over the translation 58345a41a34f94ae… (all of the seat's roots in one cut). By AI agents, Wed Nov 11 2026. No macro, syntax, notation, axiom, sorry.
-/
import Derived.Test.YtmlpijlnchnabaaChecked
import GoSem.Claim
import GoSem.ClaimJoined
import GoSem.ClaimMapViews
import Derived.JoinedTies
import Derived.KernelRfl
namespace Go.Proofs.Ytmlpijlnchnabaa
/- THE CELL 'sum', in the pinned program and in every row, IS THE sha256 OF THE DUMP (.gsa) THAT YtmlpijlnchnabaaProg.lean LOADS. Nothing in Lean hashes anything: it is a label: what it is worth is what the hold of that sum in a sandbox is worth. -/
noncomputable def Try.pinned : Pinned := { name := "ytmlpijlnchnabaa", sum := "58345a41a34f94ae12524390a633104eeb41e31b4226e9bf7a18083c6abedccc", checked := Try.checked }
namespace Rows
def none {H : Type} : Left H := { results := [], args := [] }

/-- 'whirligiglaw07.HeaderParses': WHATEVER THE INPUT: true; the input reads as it did. -/
def headerParsesSpec : ChangeSpec := { name := "headerParses", fn := fun _ => fun
  | [d] => { results := [.lit (.bool true)], args := [d] }
  | _ => none }
def headerParsesRow : OpenClaim := { program := "ytmlpijlnchnabaa", sum := "58345a41a34f94ae12524390a633104eeb41e31b4226e9bf7a18083c6abedccc", func := "whirligig/whirligiglaw07.HeaderParses", spec := "headerParses", unfollowed := true, recurses := true, apart := false }
def HeaderParsesSaid : Prop := headerParsesRow.holds Try.pinned (OpenSpec.ofChange headerParsesSpec)

/-- ITS FALSE NEIGHBOUR: 'it returns false'. Refute it at one input. -/
def headerParsesWrong : ChangeSpec := { name := "headerParses", fn := fun _ => fun
  | [d] => { results := [.lit (.bool false)], args := [d] }
  | _ => none }
def HeaderParsesWrongFalsely : Prop := headerParsesRow.holds Try.pinned (OpenSpec.ofChange headerParsesWrong)

/-- 'whirligiglaw07.HeaderMakes': WHATEVER THE INPUT: true; the input reads as it did. -/
def headerMakesSpec : ChangeSpec := { name := "headerMakes", fn := fun _ => fun
  | [d] => { results := [.lit (.bool true)], args := [d] }
  | _ => none }
def headerMakesRow : OpenClaim := { program := "ytmlpijlnchnabaa", sum := "58345a41a34f94ae12524390a633104eeb41e31b4226e9bf7a18083c6abedccc", func := "whirligig/whirligiglaw07.HeaderMakes", spec := "headerMakes", unfollowed := true, recurses := true, apart := false }
def HeaderMakesSaid : Prop := headerMakesRow.holds Try.pinned (OpenSpec.ofChange headerMakesSpec)

/-- ITS FALSE NEIGHBOUR: 'it returns false'. Refute it at one input. -/
def headerMakesWrong : ChangeSpec := { name := "headerMakes", fn := fun _ => fun
  | [d] => { results := [.lit (.bool false)], args := [d] }
  | _ => none }
def HeaderMakesWrongFalsely : Prop := headerMakesRow.holds Try.pinned (OpenSpec.ofChange headerMakesWrong)

/-- 'whirligiglaw07.HeaderTurned': WHATEVER THE INPUT: true; the input reads as it did. -/
def headerTurnedSpec : ChangeSpec := { name := "headerTurned", fn := fun _ => fun
  | [d1, d2, d3] => { results := [.lit (.bool true)], args := [d1, d2, d3] }
  | _ => none }
def headerTurnedRow : OpenClaim := { program := "ytmlpijlnchnabaa", sum := "58345a41a34f94ae12524390a633104eeb41e31b4226e9bf7a18083c6abedccc", func := "whirligig/whirligiglaw07.HeaderTurned", spec := "headerTurned", unfollowed := true, recurses := true, apart := false }
def HeaderTurnedSaid : Prop := headerTurnedRow.holds Try.pinned (OpenSpec.ofChange headerTurnedSpec)

/-- ITS FALSE NEIGHBOUR: 'it returns false'. Refute it at one input. -/
def headerTurnedWrong : ChangeSpec := { name := "headerTurned", fn := fun _ => fun
  | [d1, d2, d3] => { results := [.lit (.bool false)], args := [d1, d2, d3] }
  | _ => none }
def HeaderTurnedWrongFalsely : Prop := headerTurnedRow.holds Try.pinned (OpenSpec.ofChange headerTurnedWrong)

/-- 'whirligiglaw07.HeaderElse': WHATEVER THE INPUT: true; the input reads as it did. -/
def headerElseSpec : ChangeSpec := { name := "headerElse", fn := fun _ => fun
  | [d1, d2, d3] => { results := [.lit (.bool true)], args := [d1, d2, d3] }
  | _ => none }
def headerElseRow : OpenClaim := { program := "ytmlpijlnchnabaa", sum := "58345a41a34f94ae12524390a633104eeb41e31b4226e9bf7a18083c6abedccc", func := "whirligig/whirligiglaw07.HeaderElse", spec := "headerElse", unfollowed := true, recurses := true, apart := false }
def HeaderElseSaid : Prop := headerElseRow.holds Try.pinned (OpenSpec.ofChange headerElseSpec)

/-- ITS FALSE NEIGHBOUR: 'it returns false'. Refute it at one input. -/
def headerElseWrong : ChangeSpec := { name := "headerElse", fn := fun _ => fun
  | [d1, d2, d3] => { results := [.lit (.bool false)], args := [d1, d2, d3] }
  | _ => none }
def HeaderElseWrongFalsely : Prop := headerElseRow.holds Try.pinned (OpenSpec.ofChange headerElseWrong)

/-- 'whirligiglaw07.HeaderSums': WHATEVER THE INPUT: true; the input reads as it did. -/
def headerSumsSpec : ChangeSpec := { name := "headerSums", fn := fun _ => fun
  | [d] => { results := [.lit (.bool true)], args := [d] }
  | _ => none }
def headerSumsRow : OpenClaim := { program := "ytmlpijlnchnabaa", sum := "58345a41a34f94ae12524390a633104eeb41e31b4226e9bf7a18083c6abedccc", func := "whirligig/whirligiglaw07.HeaderSums", spec := "headerSums", unfollowed := true, recurses := true, apart := false }
def HeaderSumsSaid : Prop := headerSumsRow.holds Try.pinned (OpenSpec.ofChange headerSumsSpec)

/-- ITS FALSE NEIGHBOUR: 'it returns false'. Refute it at one input. -/
def headerSumsWrong : ChangeSpec := { name := "headerSums", fn := fun _ => fun
  | [d] => { results := [.lit (.bool false)], args := [d] }
  | _ => none }
def HeaderSumsWrongFalsely : Prop := headerSumsRow.holds Try.pinned (OpenSpec.ofChange headerSumsWrong)

/-- 'whirligiglaw07.HeaderBack': WHATEVER THE INPUT: true; the input reads as it did. -/
def headerBackSpec : ChangeSpec := { name := "headerBack", fn := fun _ => fun
  | [d] => { results := [.lit (.bool true)], args := [d] }
  | _ => none }
def headerBackRow : OpenClaim := { program := "ytmlpijlnchnabaa", sum := "58345a41a34f94ae12524390a633104eeb41e31b4226e9bf7a18083c6abedccc", func := "whirligig/whirligiglaw07.HeaderBack", spec := "headerBack", unfollowed := true, recurses := true, apart := false }
def HeaderBackSaid : Prop := headerBackRow.holds Try.pinned (OpenSpec.ofChange headerBackSpec)

/-- ITS FALSE NEIGHBOUR: 'it returns false'. Refute it at one input. -/
def headerBackWrong : ChangeSpec := { name := "headerBack", fn := fun _ => fun
  | [d] => { results := [.lit (.bool false)], args := [d] }
  | _ => none }
def HeaderBackWrongFalsely : Prop := headerBackRow.holds Try.pinned (OpenSpec.ofChange headerBackWrong)

/- THE SECOND FORM. 'bulk': how many values and letters a reading holds, each counted each time it is reached (what is shared counts as often as it is met; a slice's spare places count too). A statement '..UptoSaid' is the law's where the arguments, and the package variables that the reading takes, are together of bulk at most 1048576: NARROWER than '..Said'. Prove '..Said' where nothing that the law and all that it calls make is longer than what came in: it says more and counts as full. Else prove '..UptoSaid'. A law counts once. -/
mutual
def uptoBulk {H : Type} : DataW H → Nat
  | .lit (.string bytes) => bytes.length + 1
  | .lit _ => 1
  | .nil => 1
  | .ptr d => uptoBulk d + 1
  | .slice elems spare => uptoBulkAll elems + uptoBulkAll spare + 1
  | .agg parts => uptoBulkAll parts + 1
  | .iface _ d => uptoBulk d + 1
  | .map entries => uptoBulkEntries entries + 1
  | .held _ => 1
def uptoBulkAll {H : Type} : List (DataW H) → Nat
  | [] => 0
  | d :: r => uptoBulk d + uptoBulkAll r
def uptoBulkEntries {H : Type} : List (Lit × DataW H) → Nat
  | [] => 0
  | x :: r => uptoBulkEntry x + uptoBulkEntries r
def uptoBulkEntry {H : Type} : Lit × DataW H → Nat
  | (.string bytes, d) => bytes.length + uptoBulk d + 1
  | (_, d) => uptoBulk d + 1
 end
def uptoSmall : (H : Type) → List (DataW H) → Bool := fun _ ds => decide (uptoBulkAll ds ≤ 1048576)
def OpenSpec.upto (s : _root_.Go.ChangeSpec) : _root_.Go.OpenSpec := { _root_.Go.OpenSpec.ofChange s with cond := some uptoSmall }

/-- 'whirligiglaw07.HeaderParses', WHERE WHAT IT READS IS OF BULK AT MOST 1048576: true; the input reads as it did. -/
def headerParsesUptoRow : OpenClaim := { program := "ytmlpijlnchnabaa", sum := "58345a41a34f94ae12524390a633104eeb41e31b4226e9bf7a18083c6abedccc", func := "whirligig/whirligiglaw07.HeaderParses", spec := "headerParses", unfollowed := true, recurses := true, apart := false, narrowed := true }
def HeaderParsesUptoSaid : Prop := headerParsesUptoRow.holds Try.pinned (OpenSpec.upto headerParsesSpec)

/-- 'whirligiglaw07.HeaderMakes', WHERE WHAT IT READS IS OF BULK AT MOST 1048576: true; the input reads as it did. -/
def headerMakesUptoRow : OpenClaim := { program := "ytmlpijlnchnabaa", sum := "58345a41a34f94ae12524390a633104eeb41e31b4226e9bf7a18083c6abedccc", func := "whirligig/whirligiglaw07.HeaderMakes", spec := "headerMakes", unfollowed := true, recurses := true, apart := false, narrowed := true }
def HeaderMakesUptoSaid : Prop := headerMakesUptoRow.holds Try.pinned (OpenSpec.upto headerMakesSpec)

/-- 'whirligiglaw07.HeaderTurned', WHERE WHAT IT READS IS OF BULK AT MOST 1048576: true; the input reads as it did. -/
def headerTurnedUptoRow : OpenClaim := { program := "ytmlpijlnchnabaa", sum := "58345a41a34f94ae12524390a633104eeb41e31b4226e9bf7a18083c6abedccc", func := "whirligig/whirligiglaw07.HeaderTurned", spec := "headerTurned", unfollowed := true, recurses := true, apart := false, narrowed := true }
def HeaderTurnedUptoSaid : Prop := headerTurnedUptoRow.holds Try.pinned (OpenSpec.upto headerTurnedSpec)

/-- 'whirligiglaw07.HeaderElse', WHERE WHAT IT READS IS OF BULK AT MOST 1048576: true; the input reads as it did. -/
def headerElseUptoRow : OpenClaim := { program := "ytmlpijlnchnabaa", sum := "58345a41a34f94ae12524390a633104eeb41e31b4226e9bf7a18083c6abedccc", func := "whirligig/whirligiglaw07.HeaderElse", spec := "headerElse", unfollowed := true, recurses := true, apart := false, narrowed := true }
def HeaderElseUptoSaid : Prop := headerElseUptoRow.holds Try.pinned (OpenSpec.upto headerElseSpec)

/-- 'whirligiglaw07.HeaderSums', WHERE WHAT IT READS IS OF BULK AT MOST 1048576: true; the input reads as it did. -/
def headerSumsUptoRow : OpenClaim := { program := "ytmlpijlnchnabaa", sum := "58345a41a34f94ae12524390a633104eeb41e31b4226e9bf7a18083c6abedccc", func := "whirligig/whirligiglaw07.HeaderSums", spec := "headerSums", unfollowed := true, recurses := true, apart := false, narrowed := true }
def HeaderSumsUptoSaid : Prop := headerSumsUptoRow.holds Try.pinned (OpenSpec.upto headerSumsSpec)

/-- 'whirligiglaw07.HeaderBack', WHERE WHAT IT READS IS OF BULK AT MOST 1048576: true; the input reads as it did. -/
def headerBackUptoRow : OpenClaim := { program := "ytmlpijlnchnabaa", sum := "58345a41a34f94ae12524390a633104eeb41e31b4226e9bf7a18083c6abedccc", func := "whirligig/whirligiglaw07.HeaderBack", spec := "headerBack", unfollowed := true, recurses := true, apart := false, narrowed := true }
def HeaderBackUptoSaid : Prop := headerBackUptoRow.holds Try.pinned (OpenSpec.upto headerBackSpec)

end Rows
end Go.Proofs.Ytmlpijlnchnabaa
