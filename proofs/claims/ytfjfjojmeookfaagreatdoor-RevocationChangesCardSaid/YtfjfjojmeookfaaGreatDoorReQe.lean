/- The row's closed facts, one by one. No condition is added. -/
import Derived.Test.YtfjfjojmeookfaaGreatDoorRows
import Derived.Test.YtfjfjojmeookfaaGreatDoorReP
import Derived.JoinedOf
set_option linter.unusedVariables false
set_option linter.unusedSimpArgs false
namespace Go.Proofs.YtfjfjojmeookfaaGreatDoor
open Go Go.Fw
theorem unf : Tryz.prog.unfollowed 4 = true := by
  unfold Program.unfollowed
  rw [Go.Proofs.Tryz.clo]
  kernel_rfl
theorem fact_unf : (Rows.revocationChangesRow.unfollowed == Tryz.prog.unfollowed 4) = true := by
  rw [unf]
  rfl
theorem fact_rec : (Rows.revocationChangesRow.recurses == Tryz.prog.recurses 4) = true := by
  unfold Program.recurses
  rw [unf]
  rfl
end Go.Proofs.YtfjfjojmeookfaaGreatDoor
