/- Written by a program of this session, after the kit's print: Go functions as Lean functions, each with the proof that the Go text comes to it. -/
import Derived.Test.YtodhhbmkfphpiaaProg
import Derived.Below
import Derived.Deep.Draws
import Derived.Deep.AppendLies
import Derived.Maps.AppendAt
import Derived.OwnWalk
import Derived.Laws.BytesArg
import Derived.Laws.MakeOwn
import Derived.Laws.OwnMore
import Derived.Deep.OwnRows
import Derived.Tactics
import Derived.Lib.ConvBytes
import Derived.Laws.Slices
import Derived.WalkKit
import Derived.KernelRfl
import Derived.RowKit3
import Derived.Deep.LoopGhost
import Derived.Deep.QuietTactic
import Derived.BigQuiet
import Derived.WideLaws
import Derived.Deep.DeepCutAuto
import Derived.Deep.CutBlock
import Derived.Deep.RegionHeld3
import Derived.Laws.Rows
import Derived.Lib.AppendStr
import Derived.ArgAppend
import Derived.Laws.IdiomCopy
import Derived.OrdersHeld
import Derived.Laws.BitsLemmas
import Derived.RowKit
import Derived.Test.YtodhhbmkfphpiaaWWords
import Derived.Test.YtodhhbmkfphpiaaWLast
import Derived.Test.YtodhhbmkfphpiaaWTab
import Derived.Test.YtodhhbmkfphpiaaWFour
import Derived.Test.YtodhhbmkfphpiaaWQPut
import Derived.Test.YtodhhbmkfphpiaaWApart
import Derived.Test.YtodhhbmkfphpiaaWArr
import Derived.Test.YtodhhbmkfphpiaaWZeros
import Derived.Test.YtodhhbmkfphpiaaWFoot
import Derived.Test.YtodhhbmkfphpiaaWKept
import Derived.Test.YtodhhbmkfphpiaaWShare
import Derived.Test.YtodhhbmkfphpiaaWN
import Derived.Test.YtodhhbmkfphpiaaWFootNe
import Derived.Test.YtodhhbmkfphpiaaWAt
import Derived.Test.YtodhhbmkfphpiaaWEqStruct
import Derived.Test.YtodhhbmkfphpiaaWRepsOne
import Derived.Test.YtodhhbmkfphpiaaWInv
import Derived.Test.YtodhhbmkfphpiaaWInvWords
import Derived.Test.YtodhhbmkfphpiaaWGuard
import Derived.Test.YtodhhbmkfphpiaaWNEv
import Derived.Test.YtodhhbmkfphpiaaWMore
namespace Go.Proofs.Ytodhhbmkfphpiaa.G
open Go.RowKit Go.Proofs.YtodhhbmkfphpiaaW.PrintWords Go.Proofs.YtodhhbmkfphpiaaW.PrintLast Go.Proofs.YtodhhbmkfphpiaaW.PrintMore
attribute [local go_sem] max2_int min2_int max_two min_two max_three min_three max_four min_four   -- for this text's walks alone
set_option linter.unusedVariables false
set_option linter.unusedSimpArgs false



def errW : Option Int → Value
  | none => .nilIface
  | some c => .iface 0 (.int .i64 c)
theorem errW_none : errW none = .nilIface := rfl
theorem errW_some (c : Int) : errW (some c) = .iface 0 (.int .i64 c) := rfl

theorem info5 : (Try.prog.info? 5).map (fun i => (i.zero, i.size, i.bytes)) = some (some (.int .u8 0), 1, 1) := by kernel_rfl
-- the values' own types

end Go.Proofs.Ytodhhbmkfphpiaa.G
