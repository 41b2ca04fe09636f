/- The row's closed facts, one by one. No condition is added. -/
import Derived.Test.YtfjfjojmeookfaaGreatDoorRows
import Derived.Test.YtfjfjojmeookfaaGreatDoorReP
import Derived.JoinedOf
set_option linter.unusedVariables false
set_option linter.unusedSimpArgs false
namespace Go.Proofs.YtfjfjojmeookfaaGreatDoor
open Go Go.Fw
theorem fact_heard : Tryz.prog.stopsHeard = true := by kernel_rfl
end Go.Proofs.YtfjfjojmeookfaaGreatDoor
