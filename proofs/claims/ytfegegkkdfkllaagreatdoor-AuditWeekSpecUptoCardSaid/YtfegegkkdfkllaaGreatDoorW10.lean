/- Joined texts: the walk by computed conditions, the contracts of the functions, the plain laws. -/
import Derived.Test.YtfegegkkdfkllaaGreatDoorW1
import Derived.Test.YtfegegkkdfkllaaGreatDoorW2
import Derived.Test.YtfegegkkdfkllaaGreatDoorW3
import Derived.Test.YtfegegkkdfkllaaGreatDoorW4
import Derived.Test.YtfegegkkdfkllaaGreatDoorW5
import Derived.Test.YtfegegkkdfkllaaGreatDoorW6
import Derived.Test.YtfegegkkdfkllaaGreatDoorW8
set_option linter.unusedVariables false
set_option linter.unusedSimpArgs false
set_option maxRecDepth 100000
set_option maxHeartbeats 0
noncomputable section
namespace Go.Fo
open Go Go.Sx Go.Proofs
open Go.ChangeShapes Go.WideShapes Go.ChangeAt Go.RowKit
open Go.Proofs.YtfegegkkdfkllaaGreatDoor
theorem IY (os:Os) (args:Array Value):((DataW.laidRun Tryz.prog ((xB os).forCall (λ_ _=>0) ⟨#[],args,[]⟩).memory 8 ((Rows.auditWeekSpecUptoRow.laid.filter λx=>x.2.handleName?.isNone).map (·.1))).map (·.1))=some (Rows.auditWeekSpecUptoRow.laid.filter λx=>x.2.handleName?.isNone):=by kernel_rfl
end Go.Fo
