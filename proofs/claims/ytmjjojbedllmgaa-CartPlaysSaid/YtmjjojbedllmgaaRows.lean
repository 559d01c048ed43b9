/-
  No cell of these rows narrows 'for every input' (looked for: loops, veiled, ifaces, maps, wideKeys, modest, calm, conditions, laid).
  DERIVED. THE GIVEN ROWS OF THIS SEAT. 6 by the template 'for every input the law returns true; each argument reads behind the call as it read before'; 0 by the template 'total and deterministic' (their statements: YtmjjojbedllmgaaTotals.lean).
  GIVEN WITH THE SEED: the statements are not yours to turn. If you find one false, say at which input.
  Laid BY PROGRAM, IN A SANDBOX (cutbox-rows.mjs): the forced cells as the released guide's own fill.sh prints them over the translation 31084037947707f6… (all of the seat's roots in one cut). By AI agents, Wed Nov 11 2026. No macro, syntax, notation, axiom, sorry.
-/
import Derived.Test.YtmjjojbedllmgaaChecked
import GoSem.Claim
import GoSem.ClaimJoined
import GoSem.ClaimMapViews
import Derived.JoinedTies
import Derived.KernelRfl
namespace Go.Proofs.Ytmjjojbedllmgaa
/- THE CELL 'sum', in the pinned program and in every row, IS THE sha256 OF THE DUMP (.gsa) THAT YtmjjojbedllmgaaProg.lean LOADS. Nothing in Lean hashes anything: it is a label: what it is worth is what the hold of that sum in a sandbox is worth. -/
noncomputable def Try.pinned : Pinned := { name := "ytmjjojbedllmgaa", sum := "31084037947707f6bdad620ca07cde9e06906e1186f4f6f8ec8f937908ef4161", checked := Try.checked }
namespace Rows
def none {H : Type} : Left H := { results := [], args := [] }

/-- 'whirligiglaw10.CartNews': WHATEVER THE INPUT: true; the input reads as it did. -/
def cartNewsSpec : ChangeSpec := { name := "cartNews", fn := fun _ => fun
  | [d1, d2] => { results := [.lit (.bool true)], args := [d1, d2] }
  | _ => none }
def cartNewsRow : OpenClaim := { program := "ytmjjojbedllmgaa", sum := "31084037947707f6bdad620ca07cde9e06906e1186f4f6f8ec8f937908ef4161", func := "whirligig/whirligiglaw10.CartNews", spec := "cartNews", unfollowed := true, recurses := true, apart := false }
def CartNewsSaid : Prop := cartNewsRow.holds Try.pinned (OpenSpec.ofChange cartNewsSpec)

/-- ITS FALSE NEIGHBOUR: 'it returns false'. Refute it at one input. -/
def cartNewsWrong : ChangeSpec := { name := "cartNews", fn := fun _ => fun
  | [d1, d2] => { results := [.lit (.bool false)], args := [d1, d2] }
  | _ => none }
def CartNewsWrongFalsely : Prop := cartNewsRow.holds Try.pinned (OpenSpec.ofChange cartNewsWrong)

/-- 'whirligiglaw10.CartShut': WHATEVER THE INPUT: true; the input reads as it did. -/
def cartShutSpec : ChangeSpec := { name := "cartShut", fn := fun _ => fun
  | [d1, d2, d3, d4] => { results := [.lit (.bool true)], args := [d1, d2, d3, d4] }
  | _ => none }
def cartShutRow : OpenClaim := { program := "ytmjjojbedllmgaa", sum := "31084037947707f6bdad620ca07cde9e06906e1186f4f6f8ec8f937908ef4161", func := "whirligig/whirligiglaw10.CartShut", spec := "cartShut", unfollowed := true, recurses := true, apart := false }
def CartShutSaid : Prop := cartShutRow.holds Try.pinned (OpenSpec.ofChange cartShutSpec)

/-- ITS FALSE NEIGHBOUR: 'it returns false'. Refute it at one input. -/
def cartShutWrong : ChangeSpec := { name := "cartShut", fn := fun _ => fun
  | [d1, d2, d3, d4] => { results := [.lit (.bool false)], args := [d1, d2, d3, d4] }
  | _ => none }
def CartShutWrongFalsely : Prop := cartShutRow.holds Try.pinned (OpenSpec.ofChange cartShutWrong)

/-- 'whirligiglaw10.CartPlays': WHATEVER THE INPUT: true; the input reads as it did. -/
def cartPlaysSpec : ChangeSpec := { name := "cartPlays", fn := fun _ => fun
  | [d1, d2] => { results := [.lit (.bool true)], args := [d1, d2] }
  | _ => none }
def cartPlaysRow : OpenClaim := { program := "ytmjjojbedllmgaa", sum := "31084037947707f6bdad620ca07cde9e06906e1186f4f6f8ec8f937908ef4161", func := "whirligig/whirligiglaw10.CartPlays", spec := "cartPlays", unfollowed := true, recurses := true, apart := false }
def CartPlaysSaid : Prop := cartPlaysRow.holds Try.pinned (OpenSpec.ofChange cartPlaysSpec)

/-- ITS FALSE NEIGHBOUR: 'it returns false'. Refute it at one input. -/
def cartPlaysWrong : ChangeSpec := { name := "cartPlays", fn := fun _ => fun
  | [d1, d2] => { results := [.lit (.bool false)], args := [d1, d2] }
  | _ => none }
def CartPlaysWrongFalsely : Prop := cartPlaysRow.holds Try.pinned (OpenSpec.ofChange cartPlaysWrong)

/-- 'whirligiglaw10.CartBack': WHATEVER THE INPUT: true; the input reads as it did. -/
def cartBackSpec : ChangeSpec := { name := "cartBack", fn := fun _ => fun
  | [d1, d2, d3] => { results := [.lit (.bool true)], args := [d1, d2, d3] }
  | _ => none }
def cartBackRow : OpenClaim := { program := "ytmjjojbedllmgaa", sum := "31084037947707f6bdad620ca07cde9e06906e1186f4f6f8ec8f937908ef4161", func := "whirligig/whirligiglaw10.CartBack", spec := "cartBack", unfollowed := true, recurses := true, apart := false }
def CartBackSaid : Prop := cartBackRow.holds Try.pinned (OpenSpec.ofChange cartBackSpec)

/-- ITS FALSE NEIGHBOUR: 'it returns false'. Refute it at one input. -/
def cartBackWrong : ChangeSpec := { name := "cartBack", fn := fun _ => fun
  | [d1, d2, d3] => { results := [.lit (.bool false)], args := [d1, d2, d3] }
  | _ => none }
def CartBackWrongFalsely : Prop := cartBackRow.holds Try.pinned (OpenSpec.ofChange cartBackWrong)

/-- 'whirligiglaw10.CartLoads': WHATEVER THE INPUT: true; the input reads as it did. -/
def cartLoadsSpec : ChangeSpec := { name := "cartLoads", fn := fun _ => fun
  | [d1, d2, d3] => { results := [.lit (.bool true)], args := [d1, d2, d3] }
  | _ => none }
def cartLoadsRow : OpenClaim := { program := "ytmjjojbedllmgaa", sum := "31084037947707f6bdad620ca07cde9e06906e1186f4f6f8ec8f937908ef4161", func := "whirligig/whirligiglaw10.CartLoads", spec := "cartLoads", unfollowed := true, recurses := true, apart := false }
def CartLoadsSaid : Prop := cartLoadsRow.holds Try.pinned (OpenSpec.ofChange cartLoadsSpec)

/-- ITS FALSE NEIGHBOUR: 'it returns false'. Refute it at one input. -/
def cartLoadsWrong : ChangeSpec := { name := "cartLoads", fn := fun _ => fun
  | [d1, d2, d3] => { results := [.lit (.bool false)], args := [d1, d2, d3] }
  | _ => none }
def CartLoadsWrongFalsely : Prop := cartLoadsRow.holds Try.pinned (OpenSpec.ofChange cartLoadsWrong)

/-- 'whirligiglaw10.CartNobody': WHATEVER THE INPUT: true; the input reads as it did. -/
def cartNobodySpec : ChangeSpec := { name := "cartNobody", fn := fun _ => fun
  | [d1, d2, d3] => { results := [.lit (.bool true)], args := [d1, d2, d3] }
  | _ => none }
def cartNobodyRow : OpenClaim := { program := "ytmjjojbedllmgaa", sum := "31084037947707f6bdad620ca07cde9e06906e1186f4f6f8ec8f937908ef4161", func := "whirligig/whirligiglaw10.CartNobody", spec := "cartNobody", unfollowed := true, recurses := true, apart := false }
def CartNobodySaid : Prop := cartNobodyRow.holds Try.pinned (OpenSpec.ofChange cartNobodySpec)

/-- ITS FALSE NEIGHBOUR: 'it returns false'. Refute it at one input. -/
def cartNobodyWrong : ChangeSpec := { name := "cartNobody", fn := fun _ => fun
  | [d1, d2, d3] => { results := [.lit (.bool false)], args := [d1, d2, d3] }
  | _ => none }
def CartNobodyWrongFalsely : Prop := cartNobodyRow.holds Try.pinned (OpenSpec.ofChange cartNobodyWrong)

/- THE SECOND FORM. 'bulk': how many values and letters a reading holds, each counted each time it is reached (what is shared counts as often as it is met; a slice's spare places count too). A statement '..UptoSaid' is the law's where the arguments, and the package variables that the reading takes, are together of bulk at most 1048576: NARROWER than '..Said'. Prove '..Said' where nothing that the law and all that it calls make is longer than what came in: it says more and counts as full. Else prove '..UptoSaid'. A law counts once. -/
mutual
def uptoBulk {H : Type} : DataW H → Nat
  | .lit (.string bytes) => bytes.length + 1
  | .lit _ => 1
  | .nil => 1
  | .ptr d => uptoBulk d + 1
  | .slice elems spare => uptoBulkAll elems + uptoBulkAll spare + 1
  | .agg parts => uptoBulkAll parts + 1
  | .iface _ d => uptoBulk d + 1
  | .map entries => uptoBulkEntries entries + 1
  | .held _ => 1
def uptoBulkAll {H : Type} : List (DataW H) → Nat
  | [] => 0
  | d :: r => uptoBulk d + uptoBulkAll r
def uptoBulkEntries {H : Type} : List (Lit × DataW H) → Nat
  | [] => 0
  | x :: r => uptoBulkEntry x + uptoBulkEntries r
def uptoBulkEntry {H : Type} : Lit × DataW H → Nat
  | (.string bytes, d) => bytes.length + uptoBulk d + 1
  | (_, d) => uptoBulk d + 1
 end
def uptoSmall : (H : Type) → List (DataW H) → Bool := fun _ ds => decide (uptoBulkAll ds ≤ 1048576)
def OpenSpec.upto (s : _root_.Go.ChangeSpec) : _root_.Go.OpenSpec := { _root_.Go.OpenSpec.ofChange s with cond := some uptoSmall }

/-- 'whirligiglaw10.CartNews', WHERE WHAT IT READS IS OF BULK AT MOST 1048576: true; the input reads as it did. -/
def cartNewsUptoRow : OpenClaim := { program := "ytmjjojbedllmgaa", sum := "31084037947707f6bdad620ca07cde9e06906e1186f4f6f8ec8f937908ef4161", func := "whirligig/whirligiglaw10.CartNews", spec := "cartNews", unfollowed := true, recurses := true, apart := false, narrowed := true }
def CartNewsUptoSaid : Prop := cartNewsUptoRow.holds Try.pinned (OpenSpec.upto cartNewsSpec)

/-- 'whirligiglaw10.CartShut', WHERE WHAT IT READS IS OF BULK AT MOST 1048576: true; the input reads as it did. -/
def cartShutUptoRow : OpenClaim := { program := "ytmjjojbedllmgaa", sum := "31084037947707f6bdad620ca07cde9e06906e1186f4f6f8ec8f937908ef4161", func := "whirligig/whirligiglaw10.CartShut", spec := "cartShut", unfollowed := true, recurses := true, apart := false, narrowed := true }
def CartShutUptoSaid : Prop := cartShutUptoRow.holds Try.pinned (OpenSpec.upto cartShutSpec)

/-- 'whirligiglaw10.CartPlays', WHERE WHAT IT READS IS OF BULK AT MOST 1048576: true; the input reads as it did. -/
def cartPlaysUptoRow : OpenClaim := { program := "ytmjjojbedllmgaa", sum := "31084037947707f6bdad620ca07cde9e06906e1186f4f6f8ec8f937908ef4161", func := "whirligig/whirligiglaw10.CartPlays", spec := "cartPlays", unfollowed := true, recurses := true, apart := false, narrowed := true }
def CartPlaysUptoSaid : Prop := cartPlaysUptoRow.holds Try.pinned (OpenSpec.upto cartPlaysSpec)

/-- 'whirligiglaw10.CartBack', WHERE WHAT IT READS IS OF BULK AT MOST 1048576: true; the input reads as it did. -/
def cartBackUptoRow : OpenClaim := { program := "ytmjjojbedllmgaa", sum := "31084037947707f6bdad620ca07cde9e06906e1186f4f6f8ec8f937908ef4161", func := "whirligig/whirligiglaw10.CartBack", spec := "cartBack", unfollowed := true, recurses := true, apart := false, narrowed := true }
def CartBackUptoSaid : Prop := cartBackUptoRow.holds Try.pinned (OpenSpec.upto cartBackSpec)

/-- 'whirligiglaw10.CartLoads', WHERE WHAT IT READS IS OF BULK AT MOST 1048576: true; the input reads as it did. -/
def cartLoadsUptoRow : OpenClaim := { program := "ytmjjojbedllmgaa", sum := "31084037947707f6bdad620ca07cde9e06906e1186f4f6f8ec8f937908ef4161", func := "whirligig/whirligiglaw10.CartLoads", spec := "cartLoads", unfollowed := true, recurses := true, apart := false, narrowed := true }
def CartLoadsUptoSaid : Prop := cartLoadsUptoRow.holds Try.pinned (OpenSpec.upto cartLoadsSpec)

/-- 'whirligiglaw10.CartNobody', WHERE WHAT IT READS IS OF BULK AT MOST 1048576: true; the input reads as it did. -/
def cartNobodyUptoRow : OpenClaim := { program := "ytmjjojbedllmgaa", sum := "31084037947707f6bdad620ca07cde9e06906e1186f4f6f8ec8f937908ef4161", func := "whirligig/whirligiglaw10.CartNobody", spec := "cartNobody", unfollowed := true, recurses := true, apart := false, narrowed := true }
def CartNobodyUptoSaid : Prop := cartNobodyUptoRow.holds Try.pinned (OpenSpec.upto cartNobodySpec)

end Rows
end Go.Proofs.Ytmjjojbedllmgaa
