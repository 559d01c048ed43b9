/-
  No cell of these rows narrows 'for every input' (looked for: loops, veiled, ifaces, maps, wideKeys, modest, calm, conditions, laid).
  DERIVED. THE GIVEN ROWS OF THIS SEAT. 7 by the template 'for every input the law returns true; each argument reads behind the call as it read before'; 0 by the template 'total and deterministic' (their statements: YtkogdocpldfmnaaTotals.lean).
  GIVEN WITH THE SEED: the statements are not yours to turn. If you find one false, say at which input.
  Laid BY PROGRAM, IN A SANDBOX (cutbox-rows.mjs): the forced cells as the released guide's own fill.sh prints them over the translation 40bf112cd4ddfb80… (all of the seat's roots in one cut). By AI agents, Wed Nov 11 2026. No macro, syntax, notation, axiom, sorry.
-/
import Derived.Test.YtkogdocpldfmnaaChecked
import GoSem.Claim
import GoSem.ClaimJoined
import GoSem.ClaimMapViews
import Derived.JoinedTies
import Derived.KernelRfl
namespace Go.Proofs.Ytkogdocpldfmnaa
/- THE CELL 'sum', in the pinned program and in every row, IS THE sha256 OF THE DUMP (.gsa) THAT YtkogdocpldfmnaaProg.lean LOADS. Nothing in Lean hashes anything: it is a label: what it is worth is what the hold of that sum in a sandbox is worth. -/
noncomputable def Try.pinned : Pinned := { name := "ytkogdocpldfmnaa", sum := "40bf112cd4ddfb808454d275a3f6f04e6324c03cf0eaa571e0e96b367c9945e8", checked := Try.checked }
namespace Rows
def none {H : Type} : Left H := { results := [], args := [] }

/-- 'whirligiglaw08.MapperNews': WHATEVER THE INPUT: true; the input reads as it did. -/
def mapperNewsSpec : ChangeSpec := { name := "mapperNews", fn := fun _ => fun
  | [d] => { results := [.lit (.bool true)], args := [d] }
  | _ => none }
def mapperNewsRow : OpenClaim := { program := "ytkogdocpldfmnaa", sum := "40bf112cd4ddfb808454d275a3f6f04e6324c03cf0eaa571e0e96b367c9945e8", func := "whirligig/whirligiglaw08.MapperNews", spec := "mapperNews", unfollowed := true, recurses := true, apart := false }
def MapperNewsSaid : Prop := mapperNewsRow.holds Try.pinned (OpenSpec.ofChange mapperNewsSpec)

/-- ITS FALSE NEIGHBOUR: 'it returns false'. Refute it at one input. -/
def mapperNewsWrong : ChangeSpec := { name := "mapperNews", fn := fun _ => fun
  | [d] => { results := [.lit (.bool false)], args := [d] }
  | _ => none }
def MapperNewsWrongFalsely : Prop := mapperNewsRow.holds Try.pinned (OpenSpec.ofChange mapperNewsWrong)

/-- 'whirligiglaw08.MapperWrites': WHATEVER THE INPUT: true; the input reads as it did. -/
def mapperWritesSpec : ChangeSpec := { name := "mapperWrites", fn := fun _ => fun
  | [d1, d2, d3] => { results := [.lit (.bool true)], args := [d1, d2, d3] }
  | _ => none }
def mapperWritesRow : OpenClaim := { program := "ytkogdocpldfmnaa", sum := "40bf112cd4ddfb808454d275a3f6f04e6324c03cf0eaa571e0e96b367c9945e8", func := "whirligig/whirligiglaw08.MapperWrites", spec := "mapperWrites", unfollowed := true, recurses := true, apart := false }
def MapperWritesSaid : Prop := mapperWritesRow.holds Try.pinned (OpenSpec.ofChange mapperWritesSpec)

/-- ITS FALSE NEIGHBOUR: 'it returns false'. Refute it at one input. -/
def mapperWritesWrong : ChangeSpec := { name := "mapperWrites", fn := fun _ => fun
  | [d1, d2, d3] => { results := [.lit (.bool false)], args := [d1, d2, d3] }
  | _ => none }
def MapperWritesWrongFalsely : Prop := mapperWritesRow.holds Try.pinned (OpenSpec.ofChange mapperWritesWrong)

/-- 'whirligiglaw08.MapperBanks': WHATEVER THE INPUT: true; the input reads as it did. -/
def mapperBanksSpec : ChangeSpec := { name := "mapperBanks", fn := fun _ => fun
  | [d1, d2] => { results := [.lit (.bool true)], args := [d1, d2] }
  | _ => none }
def mapperBanksRow : OpenClaim := { program := "ytkogdocpldfmnaa", sum := "40bf112cd4ddfb808454d275a3f6f04e6324c03cf0eaa571e0e96b367c9945e8", func := "whirligig/whirligiglaw08.MapperBanks", spec := "mapperBanks", unfollowed := true, recurses := true, apart := false }
def MapperBanksSaid : Prop := mapperBanksRow.holds Try.pinned (OpenSpec.ofChange mapperBanksSpec)

/-- ITS FALSE NEIGHBOUR: 'it returns false'. Refute it at one input. -/
def mapperBanksWrong : ChangeSpec := { name := "mapperBanks", fn := fun _ => fun
  | [d1, d2] => { results := [.lit (.bool false)], args := [d1, d2] }
  | _ => none }
def MapperBanksWrongFalsely : Prop := mapperBanksRow.holds Try.pinned (OpenSpec.ofChange mapperBanksWrong)

/-- 'whirligiglaw08.MapperRams': WHATEVER THE INPUT: true; the input reads as it did. -/
def mapperRamsSpec : ChangeSpec := { name := "mapperRams", fn := fun _ => fun
  | [d1, d2, d3] => { results := [.lit (.bool true)], args := [d1, d2, d3] }
  | _ => none }
def mapperRamsRow : OpenClaim := { program := "ytkogdocpldfmnaa", sum := "40bf112cd4ddfb808454d275a3f6f04e6324c03cf0eaa571e0e96b367c9945e8", func := "whirligig/whirligiglaw08.MapperRams", spec := "mapperRams", unfollowed := true, recurses := true, apart := false }
def MapperRamsSaid : Prop := mapperRamsRow.holds Try.pinned (OpenSpec.ofChange mapperRamsSpec)

/-- ITS FALSE NEIGHBOUR: 'it returns false'. Refute it at one input. -/
def mapperRamsWrong : ChangeSpec := { name := "mapperRams", fn := fun _ => fun
  | [d1, d2, d3] => { results := [.lit (.bool false)], args := [d1, d2, d3] }
  | _ => none }
def MapperRamsWrongFalsely : Prop := mapperRamsRow.holds Try.pinned (OpenSpec.ofChange mapperRamsWrong)

/-- 'whirligiglaw08.MapperKeeps': WHATEVER THE INPUT: true; the input reads as it did. -/
def mapperKeepsSpec : ChangeSpec := { name := "mapperKeeps", fn := fun _ => fun
  | [d1, d2] => { results := [.lit (.bool true)], args := [d1, d2] }
  | _ => none }
def mapperKeepsRow : OpenClaim := { program := "ytkogdocpldfmnaa", sum := "40bf112cd4ddfb808454d275a3f6f04e6324c03cf0eaa571e0e96b367c9945e8", func := "whirligig/whirligiglaw08.MapperKeeps", spec := "mapperKeeps", unfollowed := true, recurses := true, apart := false }
def MapperKeepsSaid : Prop := mapperKeepsRow.holds Try.pinned (OpenSpec.ofChange mapperKeepsSpec)

/-- ITS FALSE NEIGHBOUR: 'it returns false'. Refute it at one input. -/
def mapperKeepsWrong : ChangeSpec := { name := "mapperKeeps", fn := fun _ => fun
  | [d1, d2] => { results := [.lit (.bool false)], args := [d1, d2] }
  | _ => none }
def MapperKeepsWrongFalsely : Prop := mapperKeepsRow.holds Try.pinned (OpenSpec.ofChange mapperKeepsWrong)

/-- 'whirligiglaw08.MapperRoms': WHATEVER THE INPUT: true; the input reads as it did. -/
def mapperRomsSpec : ChangeSpec := { name := "mapperRoms", fn := fun _ => fun
  | [d1, d2, d3] => { results := [.lit (.bool true)], args := [d1, d2, d3] }
  | _ => none }
def mapperRomsRow : OpenClaim := { program := "ytkogdocpldfmnaa", sum := "40bf112cd4ddfb808454d275a3f6f04e6324c03cf0eaa571e0e96b367c9945e8", func := "whirligig/whirligiglaw08.MapperRoms", spec := "mapperRoms", unfollowed := true, recurses := true, apart := false }
def MapperRomsSaid : Prop := mapperRomsRow.holds Try.pinned (OpenSpec.ofChange mapperRomsSpec)

/-- ITS FALSE NEIGHBOUR: 'it returns false'. Refute it at one input. -/
def mapperRomsWrong : ChangeSpec := { name := "mapperRoms", fn := fun _ => fun
  | [d1, d2, d3] => { results := [.lit (.bool false)], args := [d1, d2, d3] }
  | _ => none }
def MapperRomsWrongFalsely : Prop := mapperRomsRow.holds Try.pinned (OpenSpec.ofChange mapperRomsWrong)

/-- 'whirligiglaw08.MapperInside': WHATEVER THE INPUT: true; the input reads as it did. -/
def mapperInsideSpec : ChangeSpec := { name := "mapperInside", fn := fun _ => fun
  | [d1, d2, d3, d4] => { results := [.lit (.bool true)], args := [d1, d2, d3, d4] }
  | _ => none }
def mapperInsideRow : OpenClaim := { program := "ytkogdocpldfmnaa", sum := "40bf112cd4ddfb808454d275a3f6f04e6324c03cf0eaa571e0e96b367c9945e8", func := "whirligig/whirligiglaw08.MapperInside", spec := "mapperInside", unfollowed := true, recurses := true, apart := false }
def MapperInsideSaid : Prop := mapperInsideRow.holds Try.pinned (OpenSpec.ofChange mapperInsideSpec)

/-- ITS FALSE NEIGHBOUR: 'it returns false'. Refute it at one input. -/
def mapperInsideWrong : ChangeSpec := { name := "mapperInside", fn := fun _ => fun
  | [d1, d2, d3, d4] => { results := [.lit (.bool false)], args := [d1, d2, d3, d4] }
  | _ => none }
def MapperInsideWrongFalsely : Prop := mapperInsideRow.holds Try.pinned (OpenSpec.ofChange mapperInsideWrong)

/- THE SECOND FORM. 'bulk': how many values and letters a reading holds, each counted each time it is reached (what is shared counts as often as it is met; a slice's spare places count too). A statement '..UptoSaid' is the law's where the arguments, and the package variables that the reading takes, are together of bulk at most 1048576: NARROWER than '..Said'. Prove '..Said' where nothing that the law and all that it calls make is longer than what came in: it says more and counts as full. Else prove '..UptoSaid'. A law counts once. -/
mutual
def uptoBulk {H : Type} : DataW H → Nat
  | .lit (.string bytes) => bytes.length + 1
  | .lit _ => 1
  | .nil => 1
  | .ptr d => uptoBulk d + 1
  | .slice elems spare => uptoBulkAll elems + uptoBulkAll spare + 1
  | .agg parts => uptoBulkAll parts + 1
  | .iface _ d => uptoBulk d + 1
  | .map entries => uptoBulkEntries entries + 1
  | .held _ => 1
def uptoBulkAll {H : Type} : List (DataW H) → Nat
  | [] => 0
  | d :: r => uptoBulk d + uptoBulkAll r
def uptoBulkEntries {H : Type} : List (Lit × DataW H) → Nat
  | [] => 0
  | x :: r => uptoBulkEntry x + uptoBulkEntries r
def uptoBulkEntry {H : Type} : Lit × DataW H → Nat
  | (.string bytes, d) => bytes.length + uptoBulk d + 1
  | (_, d) => uptoBulk d + 1
 end
def uptoSmall : (H : Type) → List (DataW H) → Bool := fun _ ds => decide (uptoBulkAll ds ≤ 1048576)
def OpenSpec.upto (s : _root_.Go.ChangeSpec) : _root_.Go.OpenSpec := { _root_.Go.OpenSpec.ofChange s with cond := some uptoSmall }

/-- 'whirligiglaw08.MapperNews', WHERE WHAT IT READS IS OF BULK AT MOST 1048576: true; the input reads as it did. -/
def mapperNewsUptoRow : OpenClaim := { program := "ytkogdocpldfmnaa", sum := "40bf112cd4ddfb808454d275a3f6f04e6324c03cf0eaa571e0e96b367c9945e8", func := "whirligig/whirligiglaw08.MapperNews", spec := "mapperNews", unfollowed := true, recurses := true, apart := false, narrowed := true }
def MapperNewsUptoSaid : Prop := mapperNewsUptoRow.holds Try.pinned (OpenSpec.upto mapperNewsSpec)

/-- 'whirligiglaw08.MapperWrites', WHERE WHAT IT READS IS OF BULK AT MOST 1048576: true; the input reads as it did. -/
def mapperWritesUptoRow : OpenClaim := { program := "ytkogdocpldfmnaa", sum := "40bf112cd4ddfb808454d275a3f6f04e6324c03cf0eaa571e0e96b367c9945e8", func := "whirligig/whirligiglaw08.MapperWrites", spec := "mapperWrites", unfollowed := true, recurses := true, apart := false, narrowed := true }
def MapperWritesUptoSaid : Prop := mapperWritesUptoRow.holds Try.pinned (OpenSpec.upto mapperWritesSpec)

/-- 'whirligiglaw08.MapperBanks', WHERE WHAT IT READS IS OF BULK AT MOST 1048576: true; the input reads as it did. -/
def mapperBanksUptoRow : OpenClaim := { program := "ytkogdocpldfmnaa", sum := "40bf112cd4ddfb808454d275a3f6f04e6324c03cf0eaa571e0e96b367c9945e8", func := "whirligig/whirligiglaw08.MapperBanks", spec := "mapperBanks", unfollowed := true, recurses := true, apart := false, narrowed := true }
def MapperBanksUptoSaid : Prop := mapperBanksUptoRow.holds Try.pinned (OpenSpec.upto mapperBanksSpec)

/-- 'whirligiglaw08.MapperRams', WHERE WHAT IT READS IS OF BULK AT MOST 1048576: true; the input reads as it did. -/
def mapperRamsUptoRow : OpenClaim := { program := "ytkogdocpldfmnaa", sum := "40bf112cd4ddfb808454d275a3f6f04e6324c03cf0eaa571e0e96b367c9945e8", func := "whirligig/whirligiglaw08.MapperRams", spec := "mapperRams", unfollowed := true, recurses := true, apart := false, narrowed := true }
def MapperRamsUptoSaid : Prop := mapperRamsUptoRow.holds Try.pinned (OpenSpec.upto mapperRamsSpec)

/-- 'whirligiglaw08.MapperKeeps', WHERE WHAT IT READS IS OF BULK AT MOST 1048576: true; the input reads as it did. -/
def mapperKeepsUptoRow : OpenClaim := { program := "ytkogdocpldfmnaa", sum := "40bf112cd4ddfb808454d275a3f6f04e6324c03cf0eaa571e0e96b367c9945e8", func := "whirligig/whirligiglaw08.MapperKeeps", spec := "mapperKeeps", unfollowed := true, recurses := true, apart := false, narrowed := true }
def MapperKeepsUptoSaid : Prop := mapperKeepsUptoRow.holds Try.pinned (OpenSpec.upto mapperKeepsSpec)

/-- 'whirligiglaw08.MapperRoms', WHERE WHAT IT READS IS OF BULK AT MOST 1048576: true; the input reads as it did. -/
def mapperRomsUptoRow : OpenClaim := { program := "ytkogdocpldfmnaa", sum := "40bf112cd4ddfb808454d275a3f6f04e6324c03cf0eaa571e0e96b367c9945e8", func := "whirligig/whirligiglaw08.MapperRoms", spec := "mapperRoms", unfollowed := true, recurses := true, apart := false, narrowed := true }
def MapperRomsUptoSaid : Prop := mapperRomsUptoRow.holds Try.pinned (OpenSpec.upto mapperRomsSpec)

/-- 'whirligiglaw08.MapperInside', WHERE WHAT IT READS IS OF BULK AT MOST 1048576: true; the input reads as it did. -/
def mapperInsideUptoRow : OpenClaim := { program := "ytkogdocpldfmnaa", sum := "40bf112cd4ddfb808454d275a3f6f04e6324c03cf0eaa571e0e96b367c9945e8", func := "whirligig/whirligiglaw08.MapperInside", spec := "mapperInside", unfollowed := true, recurses := true, apart := false, narrowed := true }
def MapperInsideUptoSaid : Prop := mapperInsideUptoRow.holds Try.pinned (OpenSpec.upto mapperInsideSpec)

end Rows
end Go.Proofs.Ytkogdocpldfmnaa
