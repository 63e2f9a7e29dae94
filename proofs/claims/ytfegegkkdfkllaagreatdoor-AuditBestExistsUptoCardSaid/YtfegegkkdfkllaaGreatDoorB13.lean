/- Joined texts: the walk by computed conditions, the contracts of the functions, the plain laws. -/
import Derived.Test.YtfegegkkdfkllaaGreatDoorB1
import Derived.Test.YtfegegkkdfkllaaGreatDoorB2
import Derived.Test.YtfegegkkdfkllaaGreatDoorB3
import Derived.Test.YtfegegkkdfkllaaGreatDoorB4
import Derived.Test.YtfegegkkdfkllaaGreatDoorB5
import Derived.Test.YtfegegkkdfkllaaGreatDoorB7
import Derived.Test.YtfegegkkdfkllaaGreatDoorB9
import Derived.Test.YtfegegkkdfkllaaGreatDoorB10
import Derived.Test.YtfegegkkdfkllaaGreatDoorB11
import Derived.Test.YtfegegkkdfkllaaGreatDoorB12
set_option linter.unusedVariables false
set_option linter.unusedSimpArgs false
set_option maxRecDepth 100000
set_option maxHeartbeats 0
noncomputable section
namespace Go.Fo
open Go Go.Sx Go.Proofs
open Go.ChangeShapes Go.WideShapes Go.ChangeAt Go.RowKit
open Go.Proofs.YtfegegkkdfkllaaGreatDoor
theorem Tn (os:Os) (args:Array Value):laidMetH Tryz.prog Rows.auditWeekSpecUptoRow.laid ((xb os).forCall (λ_ _=>0) ⟨#[],args,[]⟩).memory :=laidMetH_of_parts3 (fuel:=8) (laidMet_of_run' 8 (OR os args) (OQ os args)) (OP os args) (OO os args)
end Go.Fo
