/- The row's closed facts, one by one. No condition is added. -/
import Derived.Test.YtlicgchfbhkelaaGreatDoorRows
import Derived.Test.YtlicgchfbhkelaaGreatDoorCeP
import Derived.JoinedOf
set_option linter.unusedVariables false
set_option linter.unusedSimpArgs false
namespace Go.Proofs.YtlicgchfbhkelaaGreatDoor
open Go Go.Fw
theorem unf : Tryz.prog.unfollowed 4 = true := by
  unfold Program.unfollowed
  rw [Go.Proofs.Tryz.clo]
  kernel_rfl
theorem fact_unf : (Rows.certificateChangesRow.unfollowed == Tryz.prog.unfollowed 4) = true := by
  rw [unf]
  rfl
theorem fact_rec : (Rows.certificateChangesRow.recurses == Tryz.prog.recurses 4) = true := by
  unfold Program.recurses
  rw [unf]
  rfl
end Go.Proofs.YtlicgchfbhkelaaGreatDoor
