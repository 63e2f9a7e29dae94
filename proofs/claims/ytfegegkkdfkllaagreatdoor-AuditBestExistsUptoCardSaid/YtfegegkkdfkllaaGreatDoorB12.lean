/- Joined texts: the walk by computed conditions, the contracts of the functions, the plain laws. -/
import Derived.Test.YtfegegkkdfkllaaGreatDoorB1
import Derived.Test.YtfegegkkdfkllaaGreatDoorB2
import Derived.Test.YtfegegkkdfkllaaGreatDoorB3
import Derived.Test.YtfegegkkdfkllaaGreatDoorB4
import Derived.Test.YtfegegkkdfkllaaGreatDoorB5
import Derived.Test.YtfegegkkdfkllaaGreatDoorB7
set_option linter.unusedVariables false
set_option linter.unusedSimpArgs false
set_option maxRecDepth 100000
set_option maxHeartbeats 0
noncomputable section
namespace Go.Fo
open Go Go.Sx Go.Proofs
open Go.ChangeShapes Go.WideShapes Go.ChangeAt Go.RowKit
open Go.Proofs.YtfegegkkdfkllaaGreatDoor
theorem OO (os:Os) (args:Array Value):funcsRun Tryz.prog ((xb os).forCall (λ_ _=>0) ⟨#[],args,[]⟩).memory 8 ((funcsListed Rows.auditWeekSpecUptoRow.laid).map (·.1))=some ((funcsListed Rows.auditWeekSpecUptoRow.laid).map (·.2.funcsOut)):=by kernel_rfl
end Go.Fo
