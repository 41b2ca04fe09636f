/- The row's closed facts, one by one. No condition is added. -/
import Derived.Test.YtgliijeioigckaaGreatDoorDaQa
import Derived.Test.YtgliijeioigckaaGreatDoorDaQb
import Derived.Test.YtgliijeioigckaaGreatDoorDaQc
import Derived.Test.YtgliijeioigckaaGreatDoorDaQd
import Derived.Test.YtgliijeioigckaaGreatDoorDaQe
import Derived.Test.YtgliijeioigckaaGreatDoorDaQf
import Derived.Test.YtgliijeioigckaaGreatDoorDaQg
set_option linter.unusedVariables false
set_option linter.unusedSimpArgs false
namespace Go.Proofs.YtgliijeioigckaaGreatDoor
open Go
theorem and2 {a b : Bool} (h : a = true) (k : b = true) : (a && b) = true := by rw [h, k]; rfl
end Go.Proofs.YtgliijeioigckaaGreatDoor
