/- The row's closed facts, one by one. No condition is added. -/
import Derived.Test.YtgliijeioigckaaGreatDoorHeQa
import Derived.Test.YtgliijeioigckaaGreatDoorHeQb
import Derived.Test.YtgliijeioigckaaGreatDoorHeQc
import Derived.Test.YtgliijeioigckaaGreatDoorHeQd
import Derived.Test.YtgliijeioigckaaGreatDoorHeQe
import Derived.Test.YtgliijeioigckaaGreatDoorHeQf
import Derived.Test.YtgliijeioigckaaGreatDoorHeQg
set_option linter.unusedVariables false
set_option linter.unusedSimpArgs false
namespace Go.Proofs.YtgliijeioigckaaGreatDoor
open Go
theorem and2 {a b : Bool} (h : a = true) (k : b = true) : (a && b) = true := by rw [h, k]; rfl
end Go.Proofs.YtgliijeioigckaaGreatDoor
