/- Joined texts: the walk by computed conditions, the contracts of the functions, the plain laws. -/
import Derived.Test.YtfegegkkdfkllaaGreatDoorW1
import Derived.Test.YtfegegkkdfkllaaGreatDoorW2
import Derived.Test.YtfegegkkdfkllaaGreatDoorW3
import Derived.Test.YtfegegkkdfkllaaGreatDoorW4
import Derived.Test.YtfegegkkdfkllaaGreatDoorW5
import Derived.Test.YtfegegkkdfkllaaGreatDoorW6
import Derived.Test.YtfegegkkdfkllaaGreatDoorW8
import Derived.Test.YtfegegkkdfkllaaGreatDoorW10
import Derived.Test.YtfegegkkdfkllaaGreatDoorW11
import Derived.Test.YtfegegkkdfkllaaGreatDoorW12
import Derived.Test.YtfegegkkdfkllaaGreatDoorW13
set_option linter.unusedVariables false
set_option linter.unusedSimpArgs false
set_option maxRecDepth 100000
set_option maxHeartbeats 0
noncomputable section
namespace Go.Fo
open Go Go.Sx Go.Proofs
open Go.ChangeShapes Go.WideShapes Go.ChangeAt Go.RowKit
open Go.Proofs.YtfegegkkdfkllaaGreatDoor
theorem N3 (os:Os) (args:Array Value):laidMetH Tryz.prog Rows.auditWeekSpecUptoRow.laid ((xB os).forCall (λ_ _=>0) ⟨#[],args,[]⟩).memory :=laidMetH_of_parts3 (fuel:=8) (laidMet_of_run' 8 (IY os args) (IX os args)) (IW os args) (IV os args)
end Go.Fo
