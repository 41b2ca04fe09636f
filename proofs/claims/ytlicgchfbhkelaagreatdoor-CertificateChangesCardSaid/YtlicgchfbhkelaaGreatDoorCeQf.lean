/- The row's closed facts, one by one. No condition is added. -/
import Derived.Test.YtlicgchfbhkelaaGreatDoorRows
import Derived.Test.YtlicgchfbhkelaaGreatDoorCeP
import Derived.JoinedOf
set_option linter.unusedVariables false
set_option linter.unusedSimpArgs false
namespace Go.Proofs.YtlicgchfbhkelaaGreatDoor
open Go Go.Fw
theorem fact_named : (Rows.certificateChangesRow.named == Tryz.prog.varsNamed 4) = true := by
  rw [varsNamed_of Go.Proofs.Tryz.clo]
  kernel_rfl
end Go.Proofs.YtlicgchfbhkelaaGreatDoor
