/- Joined texts: the walk by computed conditions, the contracts of the functions, the plain laws. -/
import Derived.Test.YtfegegkkdfkllaaGreatDoorW1
import Derived.Test.YtfegegkkdfkllaaGreatDoorW2
import Derived.Test.YtfegegkkdfkllaaGreatDoorW3
import Derived.Test.YtfegegkkdfkllaaGreatDoorW4
import Derived.Test.YtfegegkkdfkllaaGreatDoorW5
import Derived.Test.YtfegegkkdfkllaaGreatDoorW6
import Derived.Deep.DeepHandedRow
import Derived.Deep.DeepWitnessRowRef
import Derived.Test.YtfegegkkdfkllaaGreatDoorCards
import Derived.Test.YtfegegkkdfkllaaGreatDoorTie
import Derived.ProofKit
set_option linter.unusedVariables false
set_option linter.unusedSimpArgs false
set_option maxRecDepth 100000
set_option maxHeartbeats 0
noncomputable section
open Go.World renaming doorLaid->zwr
namespace Go.Fo
open Go Go.Sx Go.Proofs
open Go.ChangeShapes Go.WideShapes Go.ChangeAt Go.RowKit
open Go.Proofs.YtfegegkkdfkllaaGreatDoor
def litV:DataW Unit->Value
 |.lit (.int k n)=>.int k n
 |_=>.bool false
def partsV:DataW Unit->Array Value
 |.agg l=>(l.map litV).toArray
 |_=> #[]
def xB (os:Os):World := { zwr Tryz.prog 416 os with heap:=(zwr Tryz.prog 416 os).heap.modify 12 fun
   |.cells _ t frozen=>.cells (partsV Rows.laid_unicode_utf8_first) t frozen
   |o=>o }
end Go.Fo
