/- Joined texts: the walk by computed conditions, the contracts of the functions, the plain laws. -/
import Derived.Test.YtfegegkkdfkllaaGreatDoorW1
import Derived.Test.YtfegegkkdfkllaaGreatDoorW2
import Derived.Test.YtfegegkkdfkllaaGreatDoorW3
import Derived.Test.YtfegegkkdfkllaaGreatDoorW4
import Derived.Test.YtfegegkkdfkllaaGreatDoorW5
import Derived.Test.YtfegegkkdfkllaaGreatDoorW6
set_option linter.unusedVariables false
set_option linter.unusedSimpArgs false
set_option maxRecDepth 100000
set_option maxHeartbeats 0
noncomputable section
namespace Go.Fo
open Go Go.Sx Go.Proofs Go.Proofs.YtfegegkkdfkllaaGreatDoor
theorem wC {a b:Bool}(h1:a=true) (h2:b=true):(a&&b)=true:=by rw[h1,h2];rfl
theorem fact1:laidOutB Tryz.pinned.checked.prog=true:=laidOut
theorem fact2:mapsRowed Tryz.pinned.checked.prog=true:=by kernel_rfl
theorem fact24:Tryz.pinned.checked.prog.stopsHeard=true:=by kernel_rfl
theorem fact25:Tryz.pinned.checked.prog.mayEnter=true:=by kernel_rfl
end Go.Fo
