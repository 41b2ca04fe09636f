/- The row's closed facts, one by one. No condition is added. -/
import Derived.Test.YtgliijeioigckaaGreatDoorTrQa
import Derived.Test.YtgliijeioigckaaGreatDoorTrQb
import Derived.Test.YtgliijeioigckaaGreatDoorTrQc
import Derived.Test.YtgliijeioigckaaGreatDoorTrQd
import Derived.Test.YtgliijeioigckaaGreatDoorTrQe
import Derived.Test.YtgliijeioigckaaGreatDoorTrQf
import Derived.Test.YtgliijeioigckaaGreatDoorTrQg
set_option linter.unusedVariables false
set_option linter.unusedSimpArgs false
namespace Go.Proofs.YtgliijeioigckaaGreatDoor
open Go
theorem and2 {a b : Bool} (h : a = true) (k : b = true) : (a && b) = true := by rw [h, k]; rfl
end Go.Proofs.YtgliijeioigckaaGreatDoor
