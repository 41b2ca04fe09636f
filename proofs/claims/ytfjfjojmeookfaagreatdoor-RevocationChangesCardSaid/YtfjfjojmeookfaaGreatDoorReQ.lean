/- The row's closed facts, one by one. No condition is added. -/
import Derived.Test.YtfjfjojmeookfaaGreatDoorReQa
import Derived.Test.YtfjfjojmeookfaaGreatDoorReQb
import Derived.Test.YtfjfjojmeookfaaGreatDoorReQc
import Derived.Test.YtfjfjojmeookfaaGreatDoorReQd
import Derived.Test.YtfjfjojmeookfaaGreatDoorReQe
import Derived.Test.YtfjfjojmeookfaaGreatDoorReQf
import Derived.Test.YtfjfjojmeookfaaGreatDoorReQg
set_option linter.unusedVariables false
set_option linter.unusedSimpArgs false
namespace Go.Proofs.YtfjfjojmeookfaaGreatDoor
open Go
theorem and2 {a b : Bool} (h : a = true) (k : b = true) : (a && b) = true := by rw [h, k]; rfl
end Go.Proofs.YtfjfjojmeookfaaGreatDoor
