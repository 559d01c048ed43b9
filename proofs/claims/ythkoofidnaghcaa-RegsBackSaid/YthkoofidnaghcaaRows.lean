/-
  No cell of these rows narrows 'for every input' (looked for: loops, veiled, ifaces, maps, wideKeys, modest, calm, conditions, laid).
  DERIVED. THE GIVEN ROWS OF THIS SEAT. 9 by the template 'for every input the law returns true; each argument reads behind the call as it read before'; 0 by the template 'total and deterministic' (their statements: YthkoofidnaghcaaTotals.lean).
  GIVEN WITH THE SEED: the statements are not yours to turn. If you find one false, say at which input.
  Laid BY PROGRAM, IN A SANDBOX (cutbox-rows.mjs): the forced cells as the released guide's own fill.sh prints them over the translation de1b13d12a20ef36… (all of the seat's roots in one cut). By AI agents, Wed Nov 11 2026. No macro, syntax, notation, axiom, sorry.
-/
import Derived.Test.YthkoofidnaghcaaChecked
import GoSem.Claim
import GoSem.ClaimJoined
import GoSem.ClaimMapViews
import Derived.JoinedTies
import Derived.KernelRfl
namespace Go.Proofs.Ythkoofidnaghcaa
/- THE CELL 'sum', in the pinned program and in every row, IS THE sha256 OF THE DUMP (.gsa) THAT YthkoofidnaghcaaProg.lean LOADS. Nothing in Lean hashes anything: it is a label: what it is worth is what the hold of that sum in a sandbox is worth. -/
noncomputable def Try.pinned : Pinned := { name := "ythkoofidnaghcaa", sum := "de1b13d12a20ef36fb36466b8d47679314e96815ae123239669df03a36b935f2", checked := Try.checked }
namespace Rows
def none {H : Type} : Left H := { results := [], args := [] }

/-- 'whirligiglaw04.RegsGets': WHATEVER THE INPUT: true; the input reads as it did. -/
def regsGetsSpec : ChangeSpec := { name := "regsGets", fn := fun _ => fun
  | [d1, d2] => { results := [.lit (.bool true)], args := [d1, d2] }
  | _ => none }
def regsGetsRow : OpenClaim := { program := "ythkoofidnaghcaa", sum := "de1b13d12a20ef36fb36466b8d47679314e96815ae123239669df03a36b935f2", func := "whirligig/whirligiglaw04.RegsGets", spec := "regsGets", apart := false }
def RegsGetsSaid : Prop := regsGetsRow.holds Try.pinned (OpenSpec.ofChange regsGetsSpec)

/-- ITS FALSE NEIGHBOUR: 'it returns false'. Refute it at one input. -/
def regsGetsWrong : ChangeSpec := { name := "regsGets", fn := fun _ => fun
  | [d1, d2] => { results := [.lit (.bool false)], args := [d1, d2] }
  | _ => none }
def RegsGetsWrongFalsely : Prop := regsGetsRow.holds Try.pinned (OpenSpec.ofChange regsGetsWrong)

/-- 'whirligiglaw04.RegsPairs': WHATEVER THE INPUT: true; the input reads as it did. -/
def regsPairsSpec : ChangeSpec := { name := "regsPairs", fn := fun _ => fun
  | [d1, d2] => { results := [.lit (.bool true)], args := [d1, d2] }
  | _ => none }
def regsPairsRow : OpenClaim := { program := "ythkoofidnaghcaa", sum := "de1b13d12a20ef36fb36466b8d47679314e96815ae123239669df03a36b935f2", func := "whirligig/whirligiglaw04.RegsPairs", spec := "regsPairs", apart := false }
def RegsPairsSaid : Prop := regsPairsRow.holds Try.pinned (OpenSpec.ofChange regsPairsSpec)

/-- ITS FALSE NEIGHBOUR: 'it returns false'. Refute it at one input. -/
def regsPairsWrong : ChangeSpec := { name := "regsPairs", fn := fun _ => fun
  | [d1, d2] => { results := [.lit (.bool false)], args := [d1, d2] }
  | _ => none }
def RegsPairsWrongFalsely : Prop := regsPairsRow.holds Try.pinned (OpenSpec.ofChange regsPairsWrong)

/-- 'whirligiglaw04.RegsTexts': WHATEVER THE INPUT: true; the input reads as it did. -/
def regsTextsSpec : ChangeSpec := { name := "regsTexts", fn := fun _ => fun
  | [d] => { results := [.lit (.bool true)], args := [d] }
  | _ => none }
def regsTextsRow : OpenClaim := { program := "ythkoofidnaghcaa", sum := "de1b13d12a20ef36fb36466b8d47679314e96815ae123239669df03a36b935f2", func := "whirligig/whirligiglaw04.RegsTexts", spec := "regsTexts", apart := false }
def RegsTextsSaid : Prop := regsTextsRow.holds Try.pinned (OpenSpec.ofChange regsTextsSpec)

/-- ITS FALSE NEIGHBOUR: 'it returns false'. Refute it at one input. -/
def regsTextsWrong : ChangeSpec := { name := "regsTexts", fn := fun _ => fun
  | [d] => { results := [.lit (.bool false)], args := [d] }
  | _ => none }
def RegsTextsWrongFalsely : Prop := regsTextsRow.holds Try.pinned (OpenSpec.ofChange regsTextsWrong)

/-- 'whirligiglaw04.RegsPuts': WHATEVER THE INPUT: true; the input reads as it did. -/
def regsPutsSpec : ChangeSpec := { name := "regsPuts", fn := fun _ => fun
  | [d1, d2, d3] => { results := [.lit (.bool true)], args := [d1, d2, d3] }
  | _ => none }
def regsPutsRow : OpenClaim := { program := "ythkoofidnaghcaa", sum := "de1b13d12a20ef36fb36466b8d47679314e96815ae123239669df03a36b935f2", func := "whirligig/whirligiglaw04.RegsPuts", spec := "regsPuts", apart := false }
def RegsPutsSaid : Prop := regsPutsRow.holds Try.pinned (OpenSpec.ofChange regsPutsSpec)

/-- ITS FALSE NEIGHBOUR: 'it returns false'. Refute it at one input. -/
def regsPutsWrong : ChangeSpec := { name := "regsPuts", fn := fun _ => fun
  | [d1, d2, d3] => { results := [.lit (.bool false)], args := [d1, d2, d3] }
  | _ => none }
def RegsPutsWrongFalsely : Prop := regsPutsRow.holds Try.pinned (OpenSpec.ofChange regsPutsWrong)

/-- 'whirligiglaw04.RegsFlags': WHATEVER THE INPUT: true; the input reads as it did. -/
def regsFlagsSpec : ChangeSpec := { name := "regsFlags", fn := fun _ => fun
  | [d1, d2, d3] => { results := [.lit (.bool true)], args := [d1, d2, d3] }
  | _ => none }
def regsFlagsRow : OpenClaim := { program := "ythkoofidnaghcaa", sum := "de1b13d12a20ef36fb36466b8d47679314e96815ae123239669df03a36b935f2", func := "whirligig/whirligiglaw04.RegsFlags", spec := "regsFlags", apart := false }
def RegsFlagsSaid : Prop := regsFlagsRow.holds Try.pinned (OpenSpec.ofChange regsFlagsSpec)

/-- ITS FALSE NEIGHBOUR: 'it returns false'. Refute it at one input. -/
def regsFlagsWrong : ChangeSpec := { name := "regsFlags", fn := fun _ => fun
  | [d1, d2, d3] => { results := [.lit (.bool false)], args := [d1, d2, d3] }
  | _ => none }
def RegsFlagsWrongFalsely : Prop := regsFlagsRow.holds Try.pinned (OpenSpec.ofChange regsFlagsWrong)

/-- 'whirligiglaw04.RegsPutPairs': WHATEVER THE INPUT: true; the input reads as it did. -/
def regsPutPairsSpec : ChangeSpec := { name := "regsPutPairs", fn := fun _ => fun
  | [d1, d2, d3] => { results := [.lit (.bool true)], args := [d1, d2, d3] }
  | _ => none }
def regsPutPairsRow : OpenClaim := { program := "ythkoofidnaghcaa", sum := "de1b13d12a20ef36fb36466b8d47679314e96815ae123239669df03a36b935f2", func := "whirligig/whirligiglaw04.RegsPutPairs", spec := "regsPutPairs", apart := false }
def RegsPutPairsSaid : Prop := regsPutPairsRow.holds Try.pinned (OpenSpec.ofChange regsPutPairsSpec)

/-- ITS FALSE NEIGHBOUR: 'it returns false'. Refute it at one input. -/
def regsPutPairsWrong : ChangeSpec := { name := "regsPutPairs", fn := fun _ => fun
  | [d1, d2, d3] => { results := [.lit (.bool false)], args := [d1, d2, d3] }
  | _ => none }
def RegsPutPairsWrongFalsely : Prop := regsPutPairsRow.holds Try.pinned (OpenSpec.ofChange regsPutPairsWrong)

/-- 'whirligiglaw04.RegsApart': WHATEVER THE INPUT: true; the input reads as it did. -/
def regsApartSpec : ChangeSpec := { name := "regsApart", fn := fun _ => fun
  | [d1, d2, d3, d4] => { results := [.lit (.bool true)], args := [d1, d2, d3, d4] }
  | _ => none }
def regsApartRow : OpenClaim := { program := "ythkoofidnaghcaa", sum := "de1b13d12a20ef36fb36466b8d47679314e96815ae123239669df03a36b935f2", func := "whirligig/whirligiglaw04.RegsApart", spec := "regsApart", apart := false }
def RegsApartSaid : Prop := regsApartRow.holds Try.pinned (OpenSpec.ofChange regsApartSpec)

/-- ITS FALSE NEIGHBOUR: 'it returns false'. Refute it at one input. -/
def regsApartWrong : ChangeSpec := { name := "regsApart", fn := fun _ => fun
  | [d1, d2, d3, d4] => { results := [.lit (.bool false)], args := [d1, d2, d3, d4] }
  | _ => none }
def RegsApartWrongFalsely : Prop := regsApartRow.holds Try.pinned (OpenSpec.ofChange regsApartWrong)

/-- 'whirligiglaw04.RegsParses': WHATEVER THE INPUT: true; the input reads as it did. -/
def regsParsesSpec : ChangeSpec := { name := "regsParses", fn := fun _ => fun
  | [d] => { results := [.lit (.bool true)], args := [d] }
  | _ => none }
def regsParsesRow : OpenClaim := { program := "ythkoofidnaghcaa", sum := "de1b13d12a20ef36fb36466b8d47679314e96815ae123239669df03a36b935f2", func := "whirligig/whirligiglaw04.RegsParses", spec := "regsParses", apart := false }
def RegsParsesSaid : Prop := regsParsesRow.holds Try.pinned (OpenSpec.ofChange regsParsesSpec)

/-- ITS FALSE NEIGHBOUR: 'it returns false'. Refute it at one input. -/
def regsParsesWrong : ChangeSpec := { name := "regsParses", fn := fun _ => fun
  | [d] => { results := [.lit (.bool false)], args := [d] }
  | _ => none }
def RegsParsesWrongFalsely : Prop := regsParsesRow.holds Try.pinned (OpenSpec.ofChange regsParsesWrong)

/-- 'whirligiglaw04.RegsBack': WHATEVER THE INPUT: true; the input reads as it did. -/
def regsBackSpec : ChangeSpec := { name := "regsBack", fn := fun _ => fun
  | [d1, d2, d3] => { results := [.lit (.bool true)], args := [d1, d2, d3] }
  | _ => none }
def regsBackRow : OpenClaim := { program := "ythkoofidnaghcaa", sum := "de1b13d12a20ef36fb36466b8d47679314e96815ae123239669df03a36b935f2", func := "whirligig/whirligiglaw04.RegsBack", spec := "regsBack", apart := false }
def RegsBackSaid : Prop := regsBackRow.holds Try.pinned (OpenSpec.ofChange regsBackSpec)

/-- ITS FALSE NEIGHBOUR: 'it returns false'. Refute it at one input. -/
def regsBackWrong : ChangeSpec := { name := "regsBack", fn := fun _ => fun
  | [d1, d2, d3] => { results := [.lit (.bool false)], args := [d1, d2, d3] }
  | _ => none }
def RegsBackWrongFalsely : Prop := regsBackRow.holds Try.pinned (OpenSpec.ofChange regsBackWrong)

/- THE SECOND FORM. 'bulk': how many values and letters a reading holds, each counted each time it is reached (what is shared counts as often as it is met; a slice's spare places count too). A statement '..UptoSaid' is the law's where the arguments, and the package variables that the reading takes, are together of bulk at most 1048576: NARROWER than '..Said'. Prove '..Said' where nothing that the law and all that it calls make is longer than what came in: it says more and counts as full. Else prove '..UptoSaid'. A law counts once. -/
mutual
def uptoBulk {H : Type} : DataW H → Nat
  | .lit (.string bytes) => bytes.length + 1
  | .lit _ => 1
  | .nil => 1
  | .ptr d => uptoBulk d + 1
  | .slice elems spare => uptoBulkAll elems + uptoBulkAll spare + 1
  | .agg parts => uptoBulkAll parts + 1
  | .iface _ d => uptoBulk d + 1
  | .map entries => uptoBulkEntries entries + 1
  | .held _ => 1
def uptoBulkAll {H : Type} : List (DataW H) → Nat
  | [] => 0
  | d :: r => uptoBulk d + uptoBulkAll r
def uptoBulkEntries {H : Type} : List (Lit × DataW H) → Nat
  | [] => 0
  | x :: r => uptoBulkEntry x + uptoBulkEntries r
def uptoBulkEntry {H : Type} : Lit × DataW H → Nat
  | (.string bytes, d) => bytes.length + uptoBulk d + 1
  | (_, d) => uptoBulk d + 1
 end
def uptoSmall : (H : Type) → List (DataW H) → Bool := fun _ ds => decide (uptoBulkAll ds ≤ 1048576)
def OpenSpec.upto (s : _root_.Go.ChangeSpec) : _root_.Go.OpenSpec := { _root_.Go.OpenSpec.ofChange s with cond := some uptoSmall }

/-- 'whirligiglaw04.RegsGets', WHERE WHAT IT READS IS OF BULK AT MOST 1048576: true; the input reads as it did. -/
def regsGetsUptoRow : OpenClaim := { program := "ythkoofidnaghcaa", sum := "de1b13d12a20ef36fb36466b8d47679314e96815ae123239669df03a36b935f2", func := "whirligig/whirligiglaw04.RegsGets", spec := "regsGets", apart := false, narrowed := true }
def RegsGetsUptoSaid : Prop := regsGetsUptoRow.holds Try.pinned (OpenSpec.upto regsGetsSpec)

/-- 'whirligiglaw04.RegsPairs', WHERE WHAT IT READS IS OF BULK AT MOST 1048576: true; the input reads as it did. -/
def regsPairsUptoRow : OpenClaim := { program := "ythkoofidnaghcaa", sum := "de1b13d12a20ef36fb36466b8d47679314e96815ae123239669df03a36b935f2", func := "whirligig/whirligiglaw04.RegsPairs", spec := "regsPairs", apart := false, narrowed := true }
def RegsPairsUptoSaid : Prop := regsPairsUptoRow.holds Try.pinned (OpenSpec.upto regsPairsSpec)

/-- 'whirligiglaw04.RegsTexts', WHERE WHAT IT READS IS OF BULK AT MOST 1048576: true; the input reads as it did. -/
def regsTextsUptoRow : OpenClaim := { program := "ythkoofidnaghcaa", sum := "de1b13d12a20ef36fb36466b8d47679314e96815ae123239669df03a36b935f2", func := "whirligig/whirligiglaw04.RegsTexts", spec := "regsTexts", apart := false, narrowed := true }
def RegsTextsUptoSaid : Prop := regsTextsUptoRow.holds Try.pinned (OpenSpec.upto regsTextsSpec)

/-- 'whirligiglaw04.RegsPuts', WHERE WHAT IT READS IS OF BULK AT MOST 1048576: true; the input reads as it did. -/
def regsPutsUptoRow : OpenClaim := { program := "ythkoofidnaghcaa", sum := "de1b13d12a20ef36fb36466b8d47679314e96815ae123239669df03a36b935f2", func := "whirligig/whirligiglaw04.RegsPuts", spec := "regsPuts", apart := false, narrowed := true }
def RegsPutsUptoSaid : Prop := regsPutsUptoRow.holds Try.pinned (OpenSpec.upto regsPutsSpec)

/-- 'whirligiglaw04.RegsFlags', WHERE WHAT IT READS IS OF BULK AT MOST 1048576: true; the input reads as it did. -/
def regsFlagsUptoRow : OpenClaim := { program := "ythkoofidnaghcaa", sum := "de1b13d12a20ef36fb36466b8d47679314e96815ae123239669df03a36b935f2", func := "whirligig/whirligiglaw04.RegsFlags", spec := "regsFlags", apart := false, narrowed := true }
def RegsFlagsUptoSaid : Prop := regsFlagsUptoRow.holds Try.pinned (OpenSpec.upto regsFlagsSpec)

/-- 'whirligiglaw04.RegsPutPairs', WHERE WHAT IT READS IS OF BULK AT MOST 1048576: true; the input reads as it did. -/
def regsPutPairsUptoRow : OpenClaim := { program := "ythkoofidnaghcaa", sum := "de1b13d12a20ef36fb36466b8d47679314e96815ae123239669df03a36b935f2", func := "whirligig/whirligiglaw04.RegsPutPairs", spec := "regsPutPairs", apart := false, narrowed := true }
def RegsPutPairsUptoSaid : Prop := regsPutPairsUptoRow.holds Try.pinned (OpenSpec.upto regsPutPairsSpec)

/-- 'whirligiglaw04.RegsApart', WHERE WHAT IT READS IS OF BULK AT MOST 1048576: true; the input reads as it did. -/
def regsApartUptoRow : OpenClaim := { program := "ythkoofidnaghcaa", sum := "de1b13d12a20ef36fb36466b8d47679314e96815ae123239669df03a36b935f2", func := "whirligig/whirligiglaw04.RegsApart", spec := "regsApart", apart := false, narrowed := true }
def RegsApartUptoSaid : Prop := regsApartUptoRow.holds Try.pinned (OpenSpec.upto regsApartSpec)

/-- 'whirligiglaw04.RegsParses', WHERE WHAT IT READS IS OF BULK AT MOST 1048576: true; the input reads as it did. -/
def regsParsesUptoRow : OpenClaim := { program := "ythkoofidnaghcaa", sum := "de1b13d12a20ef36fb36466b8d47679314e96815ae123239669df03a36b935f2", func := "whirligig/whirligiglaw04.RegsParses", spec := "regsParses", apart := false, narrowed := true }
def RegsParsesUptoSaid : Prop := regsParsesUptoRow.holds Try.pinned (OpenSpec.upto regsParsesSpec)

/-- 'whirligiglaw04.RegsBack', WHERE WHAT IT READS IS OF BULK AT MOST 1048576: true; the input reads as it did. -/
def regsBackUptoRow : OpenClaim := { program := "ythkoofidnaghcaa", sum := "de1b13d12a20ef36fb36466b8d47679314e96815ae123239669df03a36b935f2", func := "whirligig/whirligiglaw04.RegsBack", spec := "regsBack", apart := false, narrowed := true }
def RegsBackUptoSaid : Prop := regsBackUptoRow.holds Try.pinned (OpenSpec.upto regsBackSpec)

end Rows
end Go.Proofs.Ythkoofidnaghcaa
