/-
  No cell of these rows narrows 'for every input' (looked for: loops, veiled, ifaces, maps, wideKeys, modest, calm, conditions, laid).
  DERIVED. THE GIVEN ROWS OF THIS SEAT. 7 by the template 'for every input the law returns true; each argument reads behind the call as it read before'; 0 by the template 'total and deterministic' (their statements: YtmhoekdobodfeaaTotals.lean).
  GIVEN WITH THE SEED: the statements are not yours to turn. If you find one false, say at which input.
  Laid BY PROGRAM, IN A SANDBOX (cutbox-rows.mjs): the forced cells as the released guide's own fill.sh prints them over the translation 28a7e282398a837b… (all of the seat's roots in one cut). By AI agents, Wed Nov 11 2026. No macro, syntax, notation, axiom, sorry.
-/
import Derived.Test.YtmhoekdobodfeaaChecked
import GoSem.Claim
import GoSem.ClaimJoined
import GoSem.ClaimMapViews
import Derived.JoinedTies
import Derived.KernelRfl
namespace Go.Proofs.Ytmhoekdobodfeaa
/- THE CELL 'sum', in the pinned program and in every row, IS THE sha256 OF THE DUMP (.gsa) THAT YtmhoekdobodfeaaProg.lean LOADS. Nothing in Lean hashes anything: it is a label: what it is worth is what the hold of that sum in a sandbox is worth. -/
noncomputable def Try.pinned : Pinned := { name := "ytmhoekdobodfeaa", sum := "28a7e282398a837b82578b0507dd7ef4b54eddc90d43380ce6c65694c830f121", checked := Try.checked }
namespace Rows
def none {H : Type} : Left H := { results := [], args := [] }

/-- 'whirligiglaw03.ShiftDoes': WHATEVER THE INPUT: true; the input reads as it did. -/
def shiftDoesSpec : ChangeSpec := { name := "shiftDoes", fn := fun _ => fun
  | [d1, d2, d3] => { results := [.lit (.bool true)], args := [d1, d2, d3] }
  | _ => none }
def shiftDoesRow : OpenClaim := { program := "ytmhoekdobodfeaa", sum := "28a7e282398a837b82578b0507dd7ef4b54eddc90d43380ce6c65694c830f121", func := "whirligig/whirligiglaw03.ShiftDoes", spec := "shiftDoes", unfollowed := true, recurses := true, apart := false }
def ShiftDoesSaid : Prop := shiftDoesRow.holds Try.pinned (OpenSpec.ofChange shiftDoesSpec)

/-- ITS FALSE NEIGHBOUR: 'it returns false'. Refute it at one input. -/
def shiftDoesWrong : ChangeSpec := { name := "shiftDoes", fn := fun _ => fun
  | [d1, d2, d3] => { results := [.lit (.bool false)], args := [d1, d2, d3] }
  | _ => none }
def ShiftDoesWrongFalsely : Prop := shiftDoesRow.holds Try.pinned (OpenSpec.ofChange shiftDoesWrong)

/-- 'whirligiglaw03.ShiftFasts': WHATEVER THE INPUT: true; the input reads as it did. -/
def shiftFastsSpec : ChangeSpec := { name := "shiftFasts", fn := fun _ => fun
  | [d1, d2, d3] => { results := [.lit (.bool true)], args := [d1, d2, d3] }
  | _ => none }
def shiftFastsRow : OpenClaim := { program := "ytmhoekdobodfeaa", sum := "28a7e282398a837b82578b0507dd7ef4b54eddc90d43380ce6c65694c830f121", func := "whirligig/whirligiglaw03.ShiftFasts", spec := "shiftFasts", unfollowed := true, recurses := true, apart := false }
def ShiftFastsSaid : Prop := shiftFastsRow.holds Try.pinned (OpenSpec.ofChange shiftFastsSpec)

/-- ITS FALSE NEIGHBOUR: 'it returns false'. Refute it at one input. -/
def shiftFastsWrong : ChangeSpec := { name := "shiftFasts", fn := fun _ => fun
  | [d1, d2, d3] => { results := [.lit (.bool false)], args := [d1, d2, d3] }
  | _ => none }
def ShiftFastsWrongFalsely : Prop := shiftFastsRow.holds Try.pinned (OpenSpec.ofChange shiftFastsWrong)

/-- 'whirligiglaw03.ShiftTests': WHATEVER THE INPUT: true; the input reads as it did. -/
def shiftTestsSpec : ChangeSpec := { name := "shiftTests", fn := fun _ => fun
  | [d1, d2, d3] => { results := [.lit (.bool true)], args := [d1, d2, d3] }
  | _ => none }
def shiftTestsRow : OpenClaim := { program := "ytmhoekdobodfeaa", sum := "28a7e282398a837b82578b0507dd7ef4b54eddc90d43380ce6c65694c830f121", func := "whirligig/whirligiglaw03.ShiftTests", spec := "shiftTests", unfollowed := true, recurses := true, apart := false }
def ShiftTestsSaid : Prop := shiftTestsRow.holds Try.pinned (OpenSpec.ofChange shiftTestsSpec)

/-- ITS FALSE NEIGHBOUR: 'it returns false'. Refute it at one input. -/
def shiftTestsWrong : ChangeSpec := { name := "shiftTests", fn := fun _ => fun
  | [d1, d2, d3] => { results := [.lit (.bool false)], args := [d1, d2, d3] }
  | _ => none }
def ShiftTestsWrongFalsely : Prop := shiftTestsRow.holds Try.pinned (OpenSpec.ofChange shiftTestsWrong)

/-- 'whirligiglaw03.ShiftBack': WHATEVER THE INPUT: true; the input reads as it did. -/
def shiftBackSpec : ChangeSpec := { name := "shiftBack", fn := fun _ => fun
  | [d1, d2] => { results := [.lit (.bool true)], args := [d1, d2] }
  | _ => none }
def shiftBackRow : OpenClaim := { program := "ytmhoekdobodfeaa", sum := "28a7e282398a837b82578b0507dd7ef4b54eddc90d43380ce6c65694c830f121", func := "whirligig/whirligiglaw03.ShiftBack", spec := "shiftBack", unfollowed := true, recurses := true, apart := false }
def ShiftBackSaid : Prop := shiftBackRow.holds Try.pinned (OpenSpec.ofChange shiftBackSpec)

/-- ITS FALSE NEIGHBOUR: 'it returns false'. Refute it at one input. -/
def shiftBackWrong : ChangeSpec := { name := "shiftBack", fn := fun _ => fun
  | [d1, d2] => { results := [.lit (.bool false)], args := [d1, d2] }
  | _ => none }
def ShiftBackWrongFalsely : Prop := shiftBackRow.holds Try.pinned (OpenSpec.ofChange shiftBackWrong)

/-- 'whirligiglaw03.ShiftNines': WHATEVER THE INPUT: true; the input reads as it did. -/
def shiftNinesSpec : ChangeSpec := { name := "shiftNines", fn := fun _ => fun
  | [d1, d2] => { results := [.lit (.bool true)], args := [d1, d2] }
  | _ => none }
def shiftNinesRow : OpenClaim := { program := "ytmhoekdobodfeaa", sum := "28a7e282398a837b82578b0507dd7ef4b54eddc90d43380ce6c65694c830f121", func := "whirligig/whirligiglaw03.ShiftNines", spec := "shiftNines", unfollowed := true, recurses := true, apart := false }
def ShiftNinesSaid : Prop := shiftNinesRow.holds Try.pinned (OpenSpec.ofChange shiftNinesSpec)

/-- ITS FALSE NEIGHBOUR: 'it returns false'. Refute it at one input. -/
def shiftNinesWrong : ChangeSpec := { name := "shiftNines", fn := fun _ => fun
  | [d1, d2] => { results := [.lit (.bool false)], args := [d1, d2] }
  | _ => none }
def ShiftNinesWrongFalsely : Prop := shiftNinesRow.holds Try.pinned (OpenSpec.ofChange shiftNinesWrong)

/-- 'whirligiglaw03.ShiftPuts': WHATEVER THE INPUT: true; the input reads as it did. -/
def shiftPutsSpec : ChangeSpec := { name := "shiftPuts", fn := fun _ => fun
  | [d1, d2] => { results := [.lit (.bool true)], args := [d1, d2] }
  | _ => none }
def shiftPutsRow : OpenClaim := { program := "ytmhoekdobodfeaa", sum := "28a7e282398a837b82578b0507dd7ef4b54eddc90d43380ce6c65694c830f121", func := "whirligig/whirligiglaw03.ShiftPuts", spec := "shiftPuts", unfollowed := true, recurses := true, apart := false }
def ShiftPutsSaid : Prop := shiftPutsRow.holds Try.pinned (OpenSpec.ofChange shiftPutsSpec)

/-- ITS FALSE NEIGHBOUR: 'it returns false'. Refute it at one input. -/
def shiftPutsWrong : ChangeSpec := { name := "shiftPuts", fn := fun _ => fun
  | [d1, d2] => { results := [.lit (.bool false)], args := [d1, d2] }
  | _ => none }
def ShiftPutsWrongFalsely : Prop := shiftPutsRow.holds Try.pinned (OpenSpec.ofChange shiftPutsWrong)

/-- 'whirligiglaw03.ShiftWorth': WHATEVER THE INPUT: true; the input reads as it did. -/
def shiftWorthSpec : ChangeSpec := { name := "shiftWorth", fn := fun _ => fun
  | [d1, d2, d3] => { results := [.lit (.bool true)], args := [d1, d2, d3] }
  | _ => none }
def shiftWorthRow : OpenClaim := { program := "ytmhoekdobodfeaa", sum := "28a7e282398a837b82578b0507dd7ef4b54eddc90d43380ce6c65694c830f121", func := "whirligig/whirligiglaw03.ShiftWorth", spec := "shiftWorth", unfollowed := true, recurses := true, apart := false }
def ShiftWorthSaid : Prop := shiftWorthRow.holds Try.pinned (OpenSpec.ofChange shiftWorthSpec)

/-- ITS FALSE NEIGHBOUR: 'it returns false'. Refute it at one input. -/
def shiftWorthWrong : ChangeSpec := { name := "shiftWorth", fn := fun _ => fun
  | [d1, d2, d3] => { results := [.lit (.bool false)], args := [d1, d2, d3] }
  | _ => none }
def ShiftWorthWrongFalsely : Prop := shiftWorthRow.holds Try.pinned (OpenSpec.ofChange shiftWorthWrong)

/- THE SECOND FORM. 'bulk': how many values and letters a reading holds, each counted each time it is reached (what is shared counts as often as it is met; a slice's spare places count too). A statement '..UptoSaid' is the law's where the arguments, and the package variables that the reading takes, are together of bulk at most 1048576: NARROWER than '..Said'. Prove '..Said' where nothing that the law and all that it calls make is longer than what came in: it says more and counts as full. Else prove '..UptoSaid'. A law counts once. -/
mutual
def uptoBulk {H : Type} : DataW H → Nat
  | .lit (.string bytes) => bytes.length + 1
  | .lit _ => 1
  | .nil => 1
  | .ptr d => uptoBulk d + 1
  | .slice elems spare => uptoBulkAll elems + uptoBulkAll spare + 1
  | .agg parts => uptoBulkAll parts + 1
  | .iface _ d => uptoBulk d + 1
  | .map entries => uptoBulkEntries entries + 1
  | .held _ => 1
def uptoBulkAll {H : Type} : List (DataW H) → Nat
  | [] => 0
  | d :: r => uptoBulk d + uptoBulkAll r
def uptoBulkEntries {H : Type} : List (Lit × DataW H) → Nat
  | [] => 0
  | x :: r => uptoBulkEntry x + uptoBulkEntries r
def uptoBulkEntry {H : Type} : Lit × DataW H → Nat
  | (.string bytes, d) => bytes.length + uptoBulk d + 1
  | (_, d) => uptoBulk d + 1
 end
def uptoSmall : (H : Type) → List (DataW H) → Bool := fun _ ds => decide (uptoBulkAll ds ≤ 1048576)
def OpenSpec.upto (s : _root_.Go.ChangeSpec) : _root_.Go.OpenSpec := { _root_.Go.OpenSpec.ofChange s with cond := some uptoSmall }

/-- 'whirligiglaw03.ShiftDoes', WHERE WHAT IT READS IS OF BULK AT MOST 1048576: true; the input reads as it did. -/
def shiftDoesUptoRow : OpenClaim := { program := "ytmhoekdobodfeaa", sum := "28a7e282398a837b82578b0507dd7ef4b54eddc90d43380ce6c65694c830f121", func := "whirligig/whirligiglaw03.ShiftDoes", spec := "shiftDoes", unfollowed := true, recurses := true, apart := false, narrowed := true }
def ShiftDoesUptoSaid : Prop := shiftDoesUptoRow.holds Try.pinned (OpenSpec.upto shiftDoesSpec)

/-- 'whirligiglaw03.ShiftFasts', WHERE WHAT IT READS IS OF BULK AT MOST 1048576: true; the input reads as it did. -/
def shiftFastsUptoRow : OpenClaim := { program := "ytmhoekdobodfeaa", sum := "28a7e282398a837b82578b0507dd7ef4b54eddc90d43380ce6c65694c830f121", func := "whirligig/whirligiglaw03.ShiftFasts", spec := "shiftFasts", unfollowed := true, recurses := true, apart := false, narrowed := true }
def ShiftFastsUptoSaid : Prop := shiftFastsUptoRow.holds Try.pinned (OpenSpec.upto shiftFastsSpec)

/-- 'whirligiglaw03.ShiftTests', WHERE WHAT IT READS IS OF BULK AT MOST 1048576: true; the input reads as it did. -/
def shiftTestsUptoRow : OpenClaim := { program := "ytmhoekdobodfeaa", sum := "28a7e282398a837b82578b0507dd7ef4b54eddc90d43380ce6c65694c830f121", func := "whirligig/whirligiglaw03.ShiftTests", spec := "shiftTests", unfollowed := true, recurses := true, apart := false, narrowed := true }
def ShiftTestsUptoSaid : Prop := shiftTestsUptoRow.holds Try.pinned (OpenSpec.upto shiftTestsSpec)

/-- 'whirligiglaw03.ShiftBack', WHERE WHAT IT READS IS OF BULK AT MOST 1048576: true; the input reads as it did. -/
def shiftBackUptoRow : OpenClaim := { program := "ytmhoekdobodfeaa", sum := "28a7e282398a837b82578b0507dd7ef4b54eddc90d43380ce6c65694c830f121", func := "whirligig/whirligiglaw03.ShiftBack", spec := "shiftBack", unfollowed := true, recurses := true, apart := false, narrowed := true }
def ShiftBackUptoSaid : Prop := shiftBackUptoRow.holds Try.pinned (OpenSpec.upto shiftBackSpec)

/-- 'whirligiglaw03.ShiftNines', WHERE WHAT IT READS IS OF BULK AT MOST 1048576: true; the input reads as it did. -/
def shiftNinesUptoRow : OpenClaim := { program := "ytmhoekdobodfeaa", sum := "28a7e282398a837b82578b0507dd7ef4b54eddc90d43380ce6c65694c830f121", func := "whirligig/whirligiglaw03.ShiftNines", spec := "shiftNines", unfollowed := true, recurses := true, apart := false, narrowed := true }
def ShiftNinesUptoSaid : Prop := shiftNinesUptoRow.holds Try.pinned (OpenSpec.upto shiftNinesSpec)

/-- 'whirligiglaw03.ShiftPuts', WHERE WHAT IT READS IS OF BULK AT MOST 1048576: true; the input reads as it did. -/
def shiftPutsUptoRow : OpenClaim := { program := "ytmhoekdobodfeaa", sum := "28a7e282398a837b82578b0507dd7ef4b54eddc90d43380ce6c65694c830f121", func := "whirligig/whirligiglaw03.ShiftPuts", spec := "shiftPuts", unfollowed := true, recurses := true, apart := false, narrowed := true }
def ShiftPutsUptoSaid : Prop := shiftPutsUptoRow.holds Try.pinned (OpenSpec.upto shiftPutsSpec)

/-- 'whirligiglaw03.ShiftWorth', WHERE WHAT IT READS IS OF BULK AT MOST 1048576: true; the input reads as it did. -/
def shiftWorthUptoRow : OpenClaim := { program := "ytmhoekdobodfeaa", sum := "28a7e282398a837b82578b0507dd7ef4b54eddc90d43380ce6c65694c830f121", func := "whirligig/whirligiglaw03.ShiftWorth", spec := "shiftWorth", unfollowed := true, recurses := true, apart := false, narrowed := true }
def ShiftWorthUptoSaid : Prop := shiftWorthUptoRow.holds Try.pinned (OpenSpec.upto shiftWorthSpec)

end Rows
end Go.Proofs.Ytmhoekdobodfeaa
