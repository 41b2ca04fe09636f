/- The row's closed facts, one by one. No condition is added. -/
import Derived.Test.YtlicgchfbhkelaaGreatDoorCeQa
import Derived.Test.YtlicgchfbhkelaaGreatDoorCeQb
import Derived.Test.YtlicgchfbhkelaaGreatDoorCeQc
import Derived.Test.YtlicgchfbhkelaaGreatDoorCeQd
import Derived.Test.YtlicgchfbhkelaaGreatDoorCeQe
import Derived.Test.YtlicgchfbhkelaaGreatDoorCeQf
import Derived.Test.YtlicgchfbhkelaaGreatDoorCeQg
set_option linter.unusedVariables false
set_option linter.unusedSimpArgs false
namespace Go.Proofs.YtlicgchfbhkelaaGreatDoor
open Go
theorem and2 {a b : Bool} (h : a = true) (k : b = true) : (a && b) = true := by rw [h, k]; rfl
end Go.Proofs.YtlicgchfbhkelaaGreatDoor
