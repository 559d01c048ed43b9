/- clock.Of by hand: what its array holds. -/
import Derived.Test.YtkfjofkocccefaaHWrite
import Derived.Test.YtkfjofkocccefaaHBytes
import Derived.Deep.MidRow
import Derived.Deep.RegionHeld2
import Derived.Deep.RegionHeld3
import Derived.Deep.RegionWith
import Derived.Handy
namespace Go.Proofs.Ytkfjofkocccefaa.Hand
open Go.RowKit
open Go.Proofs.Ytkfjofkocccefaa.G
open Go.Proofs.YtkfjofkocccefaaW.PrintWords Go.Proofs.YtkfjofkocccefaaW.PrintLast Go.Proofs.YtkfjofkocccefaaW.PrintMore
set_option linter.unusedVariables false
set_option linter.unusedSimpArgs false
abbrev C6 := Int × Int × Int × Int × Bool × Bool
def csOf (p q : C6) : Array Value := #[.int .u8 p.1, .int .u8 p.2.1, .int .u8 p.2.2.1, .int .u16 p.2.2.2.1, .bool p.2.2.2.2.1, .bool p.2.2.2.2.2, .int .u8 q.1, .int .u8 q.2.1, .int .u8 q.2.2.1, .int .u16 q.2.2.2.1, .bool q.2.2.2.2.1, .bool q.2.2.2.2.2]
def stOf (X Y : Nat → C6) : Nat → Array Value
  | 0 => csOf (X 0) (Y 0)
  | 1 => csOf (X 1) (Y 0)
  | 2 => csOf (X 2) (Y 0)
  | 3 => csOf (X 3) (Y 0)
  | 4 => csOf (X 4) (Y 0)
  | 5 => csOf (X 5) (Y 0)
  | 6 => csOf (X 5) (Y 1)
  | 7 => csOf (X 5) (Y 2)
  | 8 => csOf (X 5) (Y 3)
  | 9 => csOf (X 5) (Y 4)
  | _ => csOf (X 5) (Y 5)
end Go.Proofs.Ytkfjofkocccefaa.Hand
