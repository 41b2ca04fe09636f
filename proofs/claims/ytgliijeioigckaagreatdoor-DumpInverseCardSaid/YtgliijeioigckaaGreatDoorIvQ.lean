/- The row's closed facts, one by one. No condition is added. -/
import Derived.Test.YtgliijeioigckaaGreatDoorIvQa
import Derived.Test.YtgliijeioigckaaGreatDoorIvQb
import Derived.Test.YtgliijeioigckaaGreatDoorIvQc
import Derived.Test.YtgliijeioigckaaGreatDoorIvQd
import Derived.Test.YtgliijeioigckaaGreatDoorIvQe
import Derived.Test.YtgliijeioigckaaGreatDoorIvQf
import Derived.Test.YtgliijeioigckaaGreatDoorIvQg
set_option linter.unusedVariables false
set_option linter.unusedSimpArgs false
namespace Go.Proofs.YtgliijeioigckaaGreatDoor
open Go
theorem and2 {a b : Bool} (h : a = true) (k : b = true) : (a && b) = true := by rw [h, k]; rfl
end Go.Proofs.YtgliijeioigckaaGreatDoor
