/- The row's closed facts, one by one. No condition is added. -/
import Derived.Test.YtgliijeioigckaaGreatDoorRows
import Derived.Test.YtgliijeioigckaaGreatDoorTrP
import Derived.JoinedOf
set_option linter.unusedVariables false
set_option linter.unusedSimpArgs false
namespace Go.Proofs.YtgliijeioigckaaGreatDoor
open Go Go.Fw
theorem fact_maps : mapsRowed Tryz.prog = true := by kernel_rfl
end Go.Proofs.YtgliijeioigckaaGreatDoor
