/- Joined texts: the walk by computed conditions, the contracts of the functions, the plain laws. -/
import Derived.Test.YtfegegkkdfkllaaGreatDoorW1
import Derived.Test.YtfegegkkdfkllaaGreatDoorW2
import Derived.Test.YtfegegkkdfkllaaGreatDoorW3
import Derived.Test.YtfegegkkdfkllaaGreatDoorW4
import Derived.Test.YtfegegkkdfkllaaGreatDoorW5
import Derived.Test.YtfegegkkdfkllaaGreatDoorW6
import Derived.Test.YtfegegkkdfkllaaGreatDoorW8
set_option linter.unusedVariables false
set_option linter.unusedSimpArgs false
set_option maxRecDepth 100000
set_option maxHeartbeats 0
noncomputable section
namespace Go.Fo
open Go Go.Sx Go.Proofs
open Go.ChangeShapes Go.WideShapes Go.ChangeAt Go.RowKit
open Go.Proofs.YtfegegkkdfkllaaGreatDoor
theorem IV (os:Os) (args:Array Value):funcsRun Tryz.prog ((xB os).forCall (λ_ _=>0) ⟨#[],args,[]⟩).memory 8 ((funcsListed Rows.auditWeekSpecUptoRow.laid).map (·.1))=some ((funcsListed Rows.auditWeekSpecUptoRow.laid).map (·.2.funcsOut)):=by kernel_rfl
end Go.Fo
