/- The row's closed facts, one by one. No condition is added. -/
import Derived.Test.YtlicgchfbhkelaaGreatDoorRows
import Derived.Test.YtlicgchfbhkelaaGreatDoorCeP
import Derived.JoinedOf
set_option linter.unusedVariables false
set_option linter.unusedSimpArgs false
namespace Go.Proofs.YtlicgchfbhkelaaGreatDoor
open Go Go.Fw
theorem fact_maps : mapsRowed Tryz.prog = true := by kernel_rfl
end Go.Proofs.YtlicgchfbhkelaaGreatDoor
